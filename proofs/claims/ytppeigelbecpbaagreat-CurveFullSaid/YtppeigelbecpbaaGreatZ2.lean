/- Plain laws of limbs. -/
import Derived.Test.YtppeigelbecpbaaGreatZ1
import Derived.ProofKit
import Derived.ChangeSlices
set_option linter.unusedVariables false
namespace Go.Am
def val:Nat→(Nat→Nat)→Nat
 |0,_=>0
 |n+1,z=>val n z+z n*2^(32*n)
theorem ec {z:Nat→Nat}:∀{n:Nat},(∀i,i<n→z i<2^32)→val n z<2^(32*n)
 |0,_=>by simp[val]
 |n+1,h=>by
  have ih:=ec (z:=z) (n:=n) fun i hi=>h i (by omega)
  have h1:=h n (by omega)
  have:z n*2^(32*n)+2^(32*n)≤2^32*2^(32*n):=by
   rw[←Nat.succ_mul];exact Nat.mul_le_mul_right _ h1
  have e:2^(32*(n+1))=2^32*2^(32*n):=by rw[←Nat.pow_add];congr 1;omega
  rw[e,val];omega
theorem val_congr {z y:Nat→Nat}:∀{n:Nat},(∀i,i<n→z i=y i)→val n z=val n y
 |0,_=>rfl
 |n+1,h=>by rw[val,val,val_congr fun i hi=>h i (by omega),h n (by omega)]
theorem jC {z:Nat→Nat} {k:Nat}:∀{n:Nat},k≤n→(∀i,k≤i→i<n→z i=0)→val n z=val k z
 |0,h,_=>by
    have:k=0:=by omega
    subst this;rfl
 |n+1,h,hz=>by
  by_cases hk:k=n+1
  ·subst hk;rfl
  ·rw[val,jC (n:=n) (by omega) fun i h1 h2=>hz i h1 (by omega),hz n (by omega) (by omega)]
   simp
theorem l8 {z:Nat→Nat}:∀{n i:Nat},(∀j,j<n→z j<2^32)→i<n→ay (val n z) i=z i
 |0,i,_,hi=>by omega
 |n+1,i,h,hi=>by
  unfold ay
  rw[val]
  by_cases he:i=n
  ·subst he
   have:=ec (z:=z) (n:=i) fun j hj=>h j (by omega)
   rw[Nat.add_mul_div_right _ _ (Nat.two_pow_pos _),Nat.div_eq_of_lt this,Nat.zero_add]
   exact Nat.mod_eq_of_lt (h i (by omega))
  ·have ih:=l8 (z:=z) (n:=n) (i:=i) (fun j hj=>h j (by omega)) (by omega)
   unfold ay at ih
   have e:2^(32*n)=2^32*2^(32*(n-i-1))*2^(32*i):=by
    rw[←Nat.pow_add,←Nat.pow_add];congr 1;omega
   rw[e,←Nat.mul_assoc,Nat.add_mul_div_right _ _ (Nat.two_pow_pos _),←ih]
   rw[show z n*(2^32*2^(32*(n-i-1)))=2^32*(z n*2^(32*(n-i-1))) by
    rw[←Nat.mul_assoc,Nat.mul_comm (z n),Nat.mul_assoc]]
   rw[Nat.add_mul_mod_self_left]
theorem cA {N i:Nat}:ay N i<2^32:=Nat.mod_lt _ (by decide)
theorem Dw {N:Nat}:∀{n:Nat},val n (ay N)=N%2^(32*n)
 |0=>by simp[val,Nat.mod_one]
 |n+1=>by
  rw[val,Dw,ay]
  have e:2^(32*(n+1))=2^(32*n)*2^32:=by rw[←Nat.pow_add];congr 1
  rw[e,Nat.mod_mul,Nat.mul_comm (2^(32*n))]
theorem lW {N n:Nat} (h:N<2^(32*n)):val n (ay N)=N:=by rw[Dw,Nat.mod_eq_of_lt h]
theorem cq {N n:Nat}:nl N≤n↔N<2^(32*n):=by
 unfold nl
 by_cases h:N=0
 ·subst h;simp[Nat.two_pow_pos]
 ·rw[if_neg h]
  rw[←Nat.log2_lt h]
  omega
theorem jL {N:Nat}:N<2^(32*nl N):=cq.1 (Nat.le_refl _)
theorem ep {N:Nat}:val (nl N) (ay N)=N:=lW jL
theorem Jo {z:Nat→Nat} {n:Nat} (h0:0<n) (h:z (n-1)≠0):2^(32*(n-1))≤val n z:=by
 obtain⟨m,rfl⟩:∃m,n=m+1:=⟨n-1,by omega⟩
 rw[val]
 simp only[Nat.add_sub_cancel]at h ⊢
 have:1*2^(32*m)≤z m*2^(32*m):=Nat.mul_le_mul_right _ (by omega)
 omega
theorem yt {z:Nat→Nat} {n:Nat} (hz:∀i,i<n→z i<2^32) (h:n=0∨z (n-1)≠0):nl (val n z)=n:=by
 rcases Nat.eq_zero_or_pos n with rfl|h0
 ·simp[val,nl]
 ·have h1:nl (val n z)≤n:=cq.2 (ec hz)
  have h2:¬nl (val n z)≤n-1:=by
   rw[cq]
   have:=Jo h0 (h.resolve_left (by omega))
   omega
  omega
theorem xU {N:Nat} (h:N≠0):ay N (nl N-1)≠0:=by
 intro h0
 have hn:0<nl N:=by unfold nl;rw[if_neg h];omega
 have h1:val (nl N) (ay N)=val (nl N-1) (ay N):=jC (by omega) fun i h1 h2=>by
  have:i=nl N-1:=by omega
  rw[this,h0]
 rw[ep]at h1
 have h3:N<2^(32*(nl N-1)):=by
  exact Nat.lt_of_le_of_lt (Nat.le_of_eq h1) (ec (z:=ay N) (n:=nl N-1) fun i _=>cA)
 have h2:nl N≤nl N-1:=cq.2 h3
 omega
theorem eL {N:Nat}:0<nl N↔N≠0:=by
 unfold nl
 split<;>simp_all
theorem fA {a b:Nat} (h:a≤b):nl a≤nl b:=cq.2 (Nat.lt_of_le_of_lt h jL)
theorem wrap_i64 {x:Int} (h1:-2^63≤x) (h2:x<2^63):IntKind.i64.wrap x=x:=by
 simp[IntKind.wrap,IntKind.bits,IntKind.signed];omega
theorem bA {x:Int} (h1:0≤x) (h2:x<2^64):IntKind.u64.wrap x=x:=by
 simp[IntKind.wrap,IntKind.bits,IntKind.signed];omega
theorem ko {x:Int}:IntKind.u64.wrap x=x%2^64:=by
 simp[IntKind.wrap,IntKind.bits,IntKind.signed]
theorem iY {x:Int}:IntKind.u32.wrap x=x%2^32:=by
 simp[IntKind.wrap,IntKind.bits,IntKind.signed]
theorem wrap_u32 {x:Int} (h1:0≤x) (h2:x<2^32):IntKind.u32.wrap x=x:=by
 rw[iY];omega
theorem tg {x:Nat}:IntKind.u64.wrap (x:Int)=(x%2^64:Nat):=by
 rw[ko];omega
theorem gN {x:Nat}:IntKind.u32.wrap (x:Int)=(x%2^32:Nat):=by
 rw[iY];omega
theorem oN {a b:Nat} (ha:a<2^64) (hb:b<2^64):
  IntKind.u64.wrap ((BitVec.ofInt IntKind.u64.bits (a:Int)|||BitVec.ofInt IntKind.u64.bits (b:Int)).toNat:Int)=((a|||b:Nat):Int):=by
 have e:(BitVec.ofInt IntKind.u64.bits (a:Int)|||BitVec.ofInt IntKind.u64.bits (b:Int)).toNat=a|||b:=by
  rw[BitVec.toNat_or,BitVec.ofInt_natCast,BitVec.ofInt_natCast,BitVec.toNat_ofNat,BitVec.toNat_ofNat]
  rw[show IntKind.u64.bits=64 from rfl,Nat.mod_eq_of_lt ha,Nat.mod_eq_of_lt hb]
 rw[e]
 have:a|||b<2^64:=Nat.or_lt_two_pow ha hb
 exact bA (by omega) (by omega)
theorem Ww {a b:Nat} (ha:a<2^64) (hb:b<2^64):
  IntKind.u64.wrap ((BitVec.ofInt IntKind.u64.bits (a:Int)&&&BitVec.ofInt IntKind.u64.bits (b:Int)).toNat:Int)=((a&&&b:Nat):Int):=by
 have e:(BitVec.ofInt IntKind.u64.bits (a:Int)&&&BitVec.ofInt IntKind.u64.bits (b:Int)).toNat=a&&&b:=by
  rw[BitVec.toNat_and,BitVec.ofInt_natCast,BitVec.ofInt_natCast,BitVec.toNat_ofNat,BitVec.toNat_ofNat]
  rw[show IntKind.u64.bits=64 from rfl,Nat.mod_eq_of_lt ha,Nat.mod_eq_of_lt hb]
 rw[e]
 have:a&&&b<2^64:=Nat.and_lt_two_pow a hb
 exact bA (by omega) (by omega)
theorem mV {a b i:Nat} (h:b<2^i):a*2^i|||b=a*2^i+b:=by
 rw[←Nat.shiftLeft_eq,←Nat.shiftLeft_add_eq_or_of_lt h]
theorem ja {x:Int}:x.fdiv (2^min (Int.toNat 32) IntKind.u64.bits)=x/4294967296:=by
 have:min (Int.toNat 32) IntKind.u64.bits=32:=rfl
 rw[this,Int.fdiv_eq_ediv_of_nonneg _ (by decide)]
 rfl
theorem Af {x:Int}:x.fdiv (2^min (Int.toNat 63) IntKind.u64.bits)=x/9223372036854775808:=by
 have:min (Int.toNat 63) IntKind.u64.bits=63:=rfl
 rw[this,Int.fdiv_eq_ediv_of_nonneg _ (by decide)]
 rfl
theorem sS {x:Int}:x*2^min (Int.toNat 32) IntKind.u64.bits=x*4294967296:=by
 have:min (Int.toNat 32) IntKind.u64.bits=32:=rfl
 rw[this];rfl
theorem y9 {B c z y v t s:Nat} (hs:s=c+z+y) (h:v+c*B=t):v+s%4294967296*B+s/4294967296*(4294967296*B)=t+z*B+y*B:=by
 have h1:=Nat.div_add_mod s 4294967296
 generalize s/4294967296=q at*
 generalize s%4294967296=r at*
 subst h1 h
 have:c*B+z*B+y*B=(4294967296*q+r)*B:=by rw[←Nat.add_mul,←Nat.add_mul,hs]
 grind
theorem fm {i:Nat}:2^(32*(i+1))=4294967296*2^(32*i):=by
 rw[show 32*(i+1)=32+32*i by omega,Nat.pow_add]
end Go.Am

/- aT over natural numbers. -/
namespace Go.Am
open AV
def numOf (v:AV):Nat:=match v with
 |.int _ z=>z.toNat
 |_=>0
def cJ (n:Nat) (f:Nat→AV):Prop:=∀i,i<n→∃z:Nat,z<2^32∧f i=.int .u32 z
theorem BI {z:Nat→Nat} {i:Nat}:numOf (ax z i)=z i:=by simp[numOf,ax]
theorem gC {n:Nat} {z:Nat→Nat}:(val n fun i=>numOf (ax z i))=val n z:=val_congr fun _ _=>BI
theorem eA {n:Nat} {z:Nat→Nat} (h:∀i,i<n→z i<2^32):cJ n (ax z):=fun i hi=>⟨z i,h i hi,rfl⟩
def mI:AV→Option (Nat×Nat×List Prop)
 |.mag N=>some (N,nl N,[])
 |.nil=>some (0,0,[])
 |.aq es n f=>if es==1 then some (val n fun i=>numOf (f i),n,[cJ n f])else none
 |_=>none
theorem qN {a:AV} {N n:Nat} {q:List Prop} (h:mI a=some (N,n,q)) (hq:az q):∃z:Nat→Nat,(∀i,i<n→z i<2^32)∧val n z=N∧bt a (.aq 1 n (ax z)):=by
 cases a<;>simp only[mI,reduceCtorEq,Option.some.injEq,Prod.mk.injEq]at h
 case mag M=>
  obtain⟨rfl,rfl,rfl⟩:=h
  exact⟨ay M,fun i _=>cA,ep,F0 rfl fun i _=>rfl⟩
 case nil=>
  obtain⟨rfl,rfl,rfl⟩:=h
  exact⟨fun _=>0,fun i hi=>by omega,rfl,iT (by omega)⟩
 case aq es m f=>
  split at h
  ·rename_i he
   simp only[Option.some.injEq,Prod.mk.injEq]at h
   obtain⟨rfl,rfl,rfl⟩:=h
   have hq:cJ m f:=hq
   have he:es=1:=by simpa using he
   subst he
   refine⟨fun i=>numOf (f i),fun i hi=>?_,rfl,v9 rfl fun i hi=>?_⟩
   ·obtain⟨z,h1,h2⟩:=hq i hi
    simp only[h2,numOf];omega
   ·obtain⟨z,h1,h2⟩:=hq i hi
    simp[h2,numOf,ax]
  ·simp at h
def jb (g:Nat→Nat→cr):List AV→Option cr
 |[a]=>match mI a with
  |some (N,n,q)=>some ⟨(g N n).res,[],q++(g N n).fH⟩
  |none=>none
 |_=>none
def fI (g:Nat→Nat→Nat→Nat→cr):List AV→Option cr
 |[a,b]=>match mI a,mI b with
  |some (A,n,p),some (B,m,q)=>some ⟨(g A n B m).res,[],p++(q++(g A n B m).fH)⟩
  |_,_=>none
 |_=>none
def wG (g:Nat→Nat→Int→cr):List AV→Option cr
 |[a,.int .u32 k]=>match mI a with
  |some (N,n,q)=>some ⟨(g N n k).res,[],q++(g N n k).fH⟩
  |none=>none
 |_=>none
abbrev aG (v:AV) (l:List Prop):cr:=⟨v,[],l⟩
section oks
variable {P:Program} {f:FuncId}
theorem oB {g:Nat→Nat→cr} (h:∀z n K,(∀i,i<n→z i<2^32)→(g (val n z) n).need→aB P f K [.aq 1 n (ax z)] [] (aG (g (val n z) n).res [])):
  ∀K args r,aU args=[]→jb g args=some r→r.post=[]→aB P f K args [] r:=by
 intro K args r hk hs _ need
 match args,hs with
 |[a],hs=>
  simp only[jb]at hs
  split at hs
  ·rename_i N n q hn
   simp only[Option.some.injEq]at hs
   subst hs
   obtain⟨n1,n2⟩:=dA.1 need
   obtain⟨z,hz,rfl,hle⟩:=qN hn n1
   exact eO (h z n K hz n2) hk ⟨hle,trivial⟩ [] trivial
  ·simp at hs
theorem QM {g:Nat→Nat→Int→cr} (h:∀z n i K,(∀i,i<n→z i<2^32)→(g (val n z) n i).need→aB P f K [.aq 1 n (ax z),.int .u32 i] [] (aG (g (val n z) n i).res [])):
  ∀K args r,aU args=[]→wG g args=some r→r.post=[]→aB P f K args [] r:=by
 intro K args r hk hs _ need
 unfold wG at hs
 split at hs
 ·rename_i a i
  split at hs
  ·rename_i N n q hn
   simp only[Option.some.injEq]at hs
   subst hs
   obtain⟨n1,n2⟩:=dA.1 need
   obtain⟨z,hz,rfl,hle⟩:=qN hn n1
   exact eO (h z n i K hz n2) hk ⟨hle,.refl _,trivial⟩ [] trivial
  ·simp at hs
 ·simp at hs
theorem qg {g:Nat→Nat→Nat→Nat→cr} (h:∀z n y m K,(∀i,i<n→z i<2^32)→(∀i,i<m→y i<2^32)→(g (val n z) n (val m y) m).need→
   aB P f K [.aq 1 n (ax z),.aq 1 m (ax y)] [] (aG (g (val n z) n (val m y) m).res [])):
  ∀K args r,aU args=[]→fI g args=some r→r.post=[]→aB P f K args [] r:=by
 intro K args r hk hs _ need
 match args,hs with
 |[a,b],hs=>
  simp only[fI]at hs
  split at hs
  ·rename_i N n q M m p hn hm
   simp only[Option.some.injEq]at hs
   subst hs
   obtain⟨n1,n4⟩:=dA.1 need
   obtain⟨n2,n3⟩:=dA.1 n4
   obtain⟨z,hz,rfl,hle⟩:=qN hn n1
   obtain⟨y,hy,rfl,hle2⟩:=qN hm n2
   exact eO (h z n y m K hz hy n3) hk ⟨hle,hle2,trivial⟩ [] trivial
  ·simp at hs
theorem br {P:Program}:bp P []:=fun f s h=>by simp[look]at h
theorem aK {f:FuncId} {s:Spec} {Γ:aT} (h:∀K args pre r,s K args pre=some r→aB P f K args pre r) (hΓ:bp P Γ):bp P ((f,s)::Γ):=by
 intro f' s' hl
 simp only[look]at hl
 split at hl
 ·rename_i he
  have:f=f':=by simpa using he
  subst this
  simp only[Option.some.injEq]at hl
  subst hl
  exact h
 ·exact hΓ f' s' hl
end oks
def bY (a b:Nat):Int:=if a<b then-1 else if b<a then 1 else 0
def aY (N:Nat):Nat:=if N=0 then 0 else N.log2+1
end Go.Am

/- Results that are seen; slices that may be nil. -/
namespace Go.Am
open AV
def jg (sl:List (Nat×AV)):List ResultVar→Option (List AV)
 |[]=>some []
 |.tmp t::l=>match look t sl,jg sl l with
  |some v,some m=>if v.isTuple then none else some (v::m)
  |_,_=>none
 |_=>none
def BX (fn:Func) (sl:List (Nat×AV)):Option (List AV):=
 match jg sl fn.results.toList with
 |some us=>match aU us with
  |[]=>cW [] us
  |_=>none
 |none=>none
theorem BW {s:aE} {t:Nat} {v:AV} (hv:v.isTuple=false):∀{ls:List Nat},look t (aD ls (iz s ls))=some v→look t s.bS=some v
 |[],h=>by simp[aD,look]at h
 |x::ls,h=>by
  simp only[iz,aD,look]at h
  split at h
  ·rename_i he
   have:x=t:=by simpa using he
   subst this
   simp only[Option.some.injEq]at h
   subst h
   exact Hq hv
  ·exact BW hv h
theorem Ba {T:Types} {s:aE} {ls:List Nat}:∀{l:List ResultVar} {us:List AV},jg (aD ls (iz s ls)) l=some us→eG T s l=some (us,[])
 |[],us,h=>by simp only[jg,Option.some.injEq]at h;subst h;rfl
 |.tmp t::l,us,h=>by
  simp only[jg]at h
  split at h
  ·rename_i v m hv hm
   split at h
   ·simp at h
   ·rename_i ht
    simp only[Option.some.injEq]at h
    subst h
    simp only[eG,uT,BW (by simpa using ht) hv,Ba hm]
    simp[ht]
  ·simp at h
 |.cell _ _::_,us,h=>by simp[jg]at h
theorem eH {T:Types} {fn:Func} {ls:List Nat} {vs us:List AV} {os:aA} {e:ah} {s':aE} {res:AV} (he:e=.normal∨e=.ret) (hv:aR ls s'=some (vs,os)) (hr:BX fn (aD ls vs)=some us) (hres:dY us res):Fin T fn res e s':=by
 unfold aR at hv
 simp only[Option.some.injEq,Prod.mk.injEq]at hv
 obtain⟨rfl,_⟩:=hv
 unfold BX at hr
 split at hr
 ·rename_i rs hrs
  split at hr
  ·rename_i hk
   refine⟨he,rs,[],us,Ba hrs,trivial,?_,hres⟩
   rw[hk];exact hr
  ·simp at hr
 ·simp at hr
theorem FY {P:Program} {f:FuncId} {K es n:Nat} {g:Nat→AV} {l:List AV} {r:cr} (h:∀b,(b=true→n=0)→aB P f K (.cE b es n g::l) [] r):aB P f K (.aq es n g::l) [] r:=by
 intro need
 refine⟨((h false fun h=>by simp at h) need).1,fun c D D' β w vs hw0 hMw hrel hD hK hv=>?_⟩
 match vs,hv with
 |x::xs,hv=>
  obtain⟨⟨cs,h1,h2⟩,h3⟩:=hv
  have:∃b,(b=true→n=0)∧aQ (aI c [] β) w β (.cE b es n g) x:=by
   cases h1 with
   |aq g1 g2 g3 g4 g5 g6=>
    rename_i base cap cs' cf
    cases g6
    refine⟨base.isNone,fun hb=>?_,_,.cE rfl g1 g2 g3 g4 g5 .nil,h2⟩
    rcases g1 with g1|⟨b,o,rfl,_⟩
    ·exact g1
    ·simp at hb
  obtain⟨b,hb0,hb⟩:=this
  exact((h b hb0) need).2 c D D' β w (x::xs) hw0 hMw hrel hD hK ⟨hb,h3⟩
theorem HV {z y:Nat→Nat} {k:Nat}:∀{n:Nat},k<n→(∀j,k<j→j<n→z j=y j)→z k<y k→(∀i,i<n→z i<2^32)→val n z<val n y
 |0,h,_,_,_=>by omega
 |n+1,h,he,hk,hz=>by
  rw[val,val]
  by_cases hn:k=n
  ·subst hn
   have h1:=ec (z:=z) (n:=k) fun i hi=>hz i (by omega)
   have h2:(z k+1)*2^(32*k)≤y k*2^(32*k):=Nat.mul_le_mul_right _ hk
   rw[Nat.add_mul,Nat.one_mul]at h2
   omega
  ·have:=HV (n:=n) (by omega) (fun j h1 h2=>he j h1 (by omega)) hk fun i hi=>hz i (by omega)
   rw[he n (by omega) (by omega)]
   omega
theorem Ai {A B:Nat} (hn:nl A=nl B) (h:∀i,i<nl A→ay A i=ay B i):A=B:=by
 rw[←ep (N:=A),←ep (N:=B),←hn]
 exact val_congr h
theorem xF {A B k:Nat} (hn:nl A=nl B) (hk:k<nl A) (h:∀j,k<j→j<nl A→ay A j=ay B j) (hlt:ay A k<ay B k):A<B:=by
 have:=HV (z:=ay A) (y:=ay B) hk h hlt fun i _=>cA
 rw[ep,hn,ep]at this
 exact this
theorem xe {A B:Nat} (h:nl A<nl B):A<B:=by
 rcases Nat.lt_or_ge A B with h1|h1
 ·exact h1
 ·have:=fA h1;omega
theorem dP {ρ:Nat→Option Nat} {r w:Bool} {n m:Nat} {f:Nat→AV} {o:Nat→Nat} (hn:m=n) (h:∀j,j<n→f j=ax o j):dG ρ ⟨r,w,1,n,f⟩ ⟨r,w,1,m,ax o⟩:=
 gW hn fun j hj=>by rw[h j hj];exact aF rfl
def bG (o:Nat→Nat) (i x:Nat):Nat→Nat:=fun j=>if j=i then x else o j
theorem gX {o:Nat→Nat} {i x:Nat}:bG o i x i=x:=if_pos rfl
theorem dX {o:Nat→Nat} {i x j:Nat} (h:j≠i):bG o i x j=o j:=if_neg h
theorem fJ {o:Nat→Nat} {i x b:Nat} {n:Nat} (hx:x<b) (ho:∀j,j<n→o j<b):∀j,j<n→bG o i x j<b:=fun j hj=>by
 unfold bG
 split
 ·exact hx
 ·exact ho j hj
theorem e9 {o:Nat→Nat} {i x:Nat} {v:Int} (hv:v=(x:Nat)) (j:Nat):(if j=i then AV.int .u32 v else ax o j)=ax (bG o i x) j:=by
 unfold ax bG
 split
 ·rw[hv]
 ·rfl
theorem mT {o:Nat→Nat} {i x:Nat}:∀{n:Nat},i<n→o i=0→val n (bG o i x)=val n o+x*2^(32*i)
 |0,h,_=>by omega
 |n+1,h,h0=>by
  rw[val,val]
  by_cases hn:i=n
  ·subst hn
   rw[gX,h0,val_congr (y:=o) fun j hj=>dX (by omega)]
   omega
  ·rw[mT (n:=n) (by omega) h0,dX (by omega)]
   omega
theorem mS {o:Nat→Nat} {i x:Nat}:val (i+1) (bG o i x)=val i o+x*2^(32*i):=by
 rw[val,gX,val_congr (y:=o) fun j hj=>dX (by omega)]
theorem oy {x k:Nat} (h:2^k≤x):aY x=k+aY (x/2^k):=by
 have hk:=Nat.two_pow_pos k
 have h0:x≠0:=by omega
 have h1:x/2^k≠0:=by
  have:=(Nat.le_div_iff_mul_le hk (x:=1) (y:=x)).2 (by omega)
  omega
 unfold aY
 rw[if_neg h0,if_neg h1]
 have:x.log2=k+(x/2^k).log2:=by
  obtain⟨g1,g2⟩:=(Nat.log2_eq_iff h1).1 rfl
  rw[Nat.log2_eq_iff h0]
  refine⟨?_,?_⟩
  ·rw[Nat.pow_add,Nat.mul_comm]
   exact(Nat.le_div_iff_mul_le hk).1 g1
  ·rw[show k+(x/2^k).log2+1=((x/2^k).log2+1)+k by omega,Nat.pow_add]
   exact(Nat.div_lt_iff_lt_mul hk).1 g2
 omega
theorem gp {x k:Nat}:aY x≤k↔x<2^k:=by
 unfold aY
 split
 ·rename_i h;subst h;simp[Nat.two_pow_pos]
 ·rename_i h;rw[←Nat.log2_lt h];omega
theorem Ih {N:Nat} (h:N≠0):aY N=32*(nl N-1)+aY (ay N (nl N-1)):=by
 have hp:=eL.2 h
 have h1:2^(32*(nl N-1))≤N:=by
  rcases Nat.lt_or_ge N (2^(32*(nl N-1)))with h1|h1
  ·have:=cq.2 h1;omega
  ·exact h1
 have h2:N/2^(32*(nl N-1))<2^32:=by
  rw[Nat.div_lt_iff_lt_mul (Nat.two_pow_pos _),←Nat.pow_add]
  have:=jL (N:=N)
  rw[show 32+32*(nl N-1)=32*nl N by omega]
  exact this
 rw[oy h1,ay,Nat.mod_eq_of_lt h2]
theorem zk {o:Nat→Nat} {i x:Nat}:∀{n:Nat},i<n→val n (bG o i x)+o i*2^(32*i)=val n o+x*2^(32*i)
 |0,h=>by omega
 |n+1,h=>by
  rw[val,val]
  by_cases hn:i=n
  ·subst hn
   rw[gX,val_congr (y:=o) fun j hj=>dX (by omega)]
   omega
  ·have:=zk (o:=o) (x:=x) (n:=n) (i:=i) (by omega)
   rw[dX (show n≠i by omega)]
   omega
theorem aj.mq {P:Program} {c:Ctx} {nt:Nat} {s:aE} {Q:ah→aE→Prop} {x y:Code} {i:Nat} (hx:x=.block i y) (h:aj P c nt y s (inBlock i Q)):aj P c nt x s Q:=hx▸.Hf h
theorem CK {c x y o:Nat} (hc:c<2^32) (hx:x<2^32) (hy:y<2^32) (ho:o<2^32):
  IntKind.u64.wrap ((c:Int)+IntKind.u64.wrap (IntKind.u64.wrap (IntKind.u64.wrap (x:Int)*IntKind.u64.wrap (y:Int))+IntKind.u64.wrap (o:Int)))=((c+x*y+o:Nat):Int)∧
   c+x*y+o<2^64∧(c+x*y+o)/4294967296<2^32:=by
 have h1:x*y≤(2^32-1)*(2^32-1):=Nat.mul_le_mul (by omega) (by omega)
 have e:(x:Int)*(y:Int)=((x*y:Nat):Int):=by simp
 rw[bA (x:=(x:Int)) (by omega) (by omega),bA (x:=(y:Int)) (by omega) (by omega),bA (x:=(o:Int)) (by omega) (by omega),e]
 generalize x*y=p at*
 refine⟨?_,by omega,by omega⟩
 rw[bA (x:=(p:Int)) (by omega) (by omega),bA (x:=(p:Int)+o) (by omega) (by omega),bA (by omega) (by omega)]
 omega
theorem EL {vo vo' oi c x yj B s q r v Bi Bj vy:Nat} (hs:s=c+x*yj+oi) (hq:4294967296*q+r=s) (hset:vo'+oi*B=vo+r*B) (hB:B=Bi*Bj) (h:vo+c*B=v+x*vy*Bi):
  vo'+q*(4294967296*B)=v+x*(vy+yj*Bj)*Bi:=by
 subst hB
 have e:(4294967296*q+r)*(Bi*Bj)=(c+x*yj+oi)*(Bi*Bj):=by rw[hq,hs]
 grind
theorem Ig {P:Program} {f:FuncId} {K:Nat} {args:List AV} {u v:AV} {l l':List Prop} (hf:aB P f K args [] ⟨u,[],l⟩) (hl:az l'→az l) (hk:keys u=[]) (ht:u.isTuple=false) (hle:bt u v):aB P f K args [] ⟨v,[],l'⟩:=by
 intro need
 obtain⟨h1,h2⟩:=hf (hl need)
 refine⟨fun k o ho=>by simp[look]at ho,fun c D D' β w vs hw0 hMw hrel hD hK hv=>(h2 c D D' β w vs hw0 hMw hrel hD hK hv).mono ?_⟩
 rintro x w' ⟨β',g1,g2,g3⟩
 refine⟨β',g1,g2,?_⟩
 have h3:bI _ w' β' [u] [x]:=⟨aX.one g3 ht,trivial⟩
 have h4:=wJ (us:=[u]) (vs:=[v]) ⟨hle,trivial⟩ (h3.aS (by rw[Av];exact hk))
 have h5:=h4.mono (fun b o h1 h2=>⟨h2,h1⟩) (β':=β') fun k x hx=>by simp[aS]at hx
 exact aQ.bg h5.1
theorem AF {i:Nat} {Q:ah→aE→Prop} {s:aE} (h:Q .normal s):inBlock i Q (.exit i) s:=by
 simp only[inBlock,if_true];exact h
theorem dM {i:Nat} {k:aE→Prop} {Q:ah→aE→Prop} {s:aE} (h:Q .normal s):cK k (inBlock i Q) (.exit i) s:=by
 show inBlock i Q (.exit i) s
 exact AF h
theorem nr {i:Nat} {k:aE→Prop} {Q:ah→aE→Prop} {s:aE} (h:Q (.exit i) s):cK k Q (.exit i) s:=h
theorem FQ {i:Nat} {k:aE→Prop} {Q:ah→aE→Prop} {s:aE} (h:Q .ret s):cK k (inBlock i Q) .ret s:=h
theorem dL {k:aE→Prop} {Q:ah→aE→Prop} {s:aE} (h:Q .ret s):cK k Q .ret s:=h
theorem A4 {s:aE}:∀{a b:List Nat},iz s (a++b)=iz s a++iz s b
 |[],_=>rfl
 |x::a,b=>by simp only[List.cons_append,iz,A4]
theorem Be {s:aE}:∀{a:List Nat},(iz s a).length=a.length
 |[]=>rfl
 |x::a=>by simp only[iz,List.length_cons,Be]
theorem GV {a b:List AV}:aU (a++b)=aU a++aU b:=by
 induction a with
 |nil=>rfl
 |cons x a ih=>simp only[List.cons_append,aU,ih,List.append_assoc]
theorem fS {s:aE} {ls l:List Nat} {vs us:List AV} {os:aA} (hv:aR (ls++l) s=some (vs++us,os)) (hl:vs.length=ls.length) (hk:aU us=[]):aR ls s=some (vs,os):=by
 unfold aR at hv ⊢
 simp only[Option.some.injEq,Prod.mk.injEq,A4]at hv ⊢
 obtain⟨h1,h2⟩:=hv
 obtain⟨h3,h4⟩:=List.append_inj h1 (by rw[Be,hl])
 subst h3
 refine⟨rfl,?_⟩
 rw[←h2,h4,GV,hk,List.append_nil]
end Go.Am

/- Tables of types: what has to be shown of an entry. -/
namespace Go.Am
open AV
mutual
/-- The cells of a zero value. -/
def zeroCells:AV→Option (List Value)
 |.bool b=>some [.bool b]
 |.int k n=>some [.int k n]
 |.nil=>some [.slice none 0 0]
 |.rat q n=>if q=0∧n=1 then some [.bool false,.slice none 0 0,.slice none 0 0]else none
 |.agg l=>oZ l
 |_=>none
def oZ:List AV→Option (List Value)
 |[]=>some []
 |a::l=>match zeroCells a,oZ l with
  |some c,some d=>some (c++d)
  |_,_=>none
end
mutual
theorem Ap {M:Nat→Prop} {w:World} {β:aL}:∀{v:AV} {cs:List Value},zeroCells v=some cs→aH M w β [v] cs
 |.bool b,cs,h=>by simp only[zeroCells,Option.some.injEq]at h;subst h;exact .bool .nil
 |.int k n,cs,h=>by simp only[zeroCells,Option.some.injEq]at h;subst h;exact .int .nil
 |.nil,cs,h=>by simp only[zeroCells,Option.some.injEq]at h;subst h;exact .vnil .nil
 |.rat q n,cs,h=>by
  simp only[zeroCells]at h
  split at h
  ·rename_i hq
   obtain⟨rfl,rfl⟩:=hq
   simp only[Option.some.injEq]at h
   subst h
   have h0:aH M w aS [.mag 0] [.slice none 0 0]:=by
    have:=aH.mag (M:=M) (w:=w) (β:=aS) (N:=0) (base:=none) (cap:=0) (.inl rfl) (by simp[pO]) .nil
    simpa [pO]using this
   have:=aH.rat (M:=M) (w:=w) (β:=β) (q:=0) (n:=1) (x:=.slice none 0 0) (y:=.slice none 0 0) (l:=[]) (cs:=[]) ⟨by decide,by decide⟩ (by simpa using h0) (by simpa using h0) .nil
   simpa using this
  ·simp at h
 |.agg l,cs,h=>by
  simp only[zeroCells]at h
  simpa using aH.agg (CO h) .nil
 |.mag _,cs,h=>by simp[zeroCells]at h
 |.aq _ _ _,cs,h=>by simp[zeroCells]at h
 |.cE _ _ _ _,cs,h=>by simp[zeroCells]at h
 |.bO _,cs,h=>by simp[zeroCells]at h
 |.ptr _ _ _ _ _,cs,h=>by simp[zeroCells]at h
 |.own _ _ _ _,cs,h=>by simp[zeroCells]at h
 |.func _ _,cs,h=>by simp[zeroCells]at h
 |.tuple _,cs,h=>by simp[zeroCells]at h
 |.bn _ _,cs,h=>by simp[zeroCells]at h
theorem CO {M:Nat→Prop} {w:World} {β:aL}:∀{l:List AV} {cs:List Value},oZ l=some cs→aH M w β l cs
 |[],cs,h=>by simp only[oZ,Option.some.injEq]at h;subst h;exact .nil
 |a::l,cs,h=>by
  simp only[oZ]at h
  cases ha:zeroCells a with
  |none=>rw[ha]at h;simp at h
  |some c=>
   cases hl:oZ l with
   |none=>rw[ha,hl]at h;simp at h
   |some d=>
    rw[ha,hl]at h
    simp only[Option.some.injEq]at h
    subst h
    exact(Ap ha).cons (CO hl)
end
def Bz (v:AV):Option Value:=
 match zeroCells v with
 |some cs=>if v.isAgg then some (.agg cs.toArray)else match cs with
  |[x]=>some x
  |_=>none
 |none=>none
theorem b6 {P:Program} {t:TypeId} {ti:TI} (h1:P.underlying t=some ti.desc) (h2:(P.info? t).map (fun i=>(i.size,i.bytes,i.zero))=some (ti.size,ti.bytes,Bz ti.zero))
  (h3:(Bz ti.zero).isSome=true):bw P t ti:=by
 cases hi:P.info? t with
 |none=>rw[hi]at h2;simp at h2
 |some i=>
  rw[hi]at h2
  simp only[Option.map_some,Option.some.injEq,Prod.mk.injEq]at h2
  refine⟨h1,⟨i,hi,h2.1,h2.2.1⟩,fun _=>?_⟩
  obtain⟨z,hz⟩:=Option.isSome_iff_exists.1 h3
  refine⟨i,z,hi,by rw[h2.2.2,hz],fun M w β=>?_⟩
  unfold Bz at hz
  cases hc:zeroCells ti.zero with
  |none=>rw[hc]at hz;simp at hz
  |some cs=>
   rw[hc]at hz
   simp only at hz
   split at hz
   ·rename_i ha
    simp only[Option.some.injEq]at hz
    subst hz
    exact .yq (Ap hc) ha
   ·rename_i ha
    split at hz
    ·simp only[Option.some.injEq]at hz
     subst hz
     exact .bJ (Ap hc) (by simpa using ha)
    ·simp at hz
theorem gn {P:Program} {t:TypeId} {ti:TI} (h1:P.underlying t=some ti.desc) (h2:(P.info? t).map (fun i=>(i.size,i.bytes))=some (ti.size,ti.bytes)) (h3:ti.zero=.tuple []):bw P t ti:=by
 cases hi:P.info? t with
 |none=>rw[hi]at h2;simp at h2
 |some i=>
  rw[hi]at h2
  simp only[Option.map_some,Option.some.injEq,Prod.mk.injEq]at h2
  exact⟨h1,⟨i,hi,h2.1,h2.2⟩,fun h=>by rw[h3]at h;simp[isTuple]at h⟩
theorem SX {P:Program}:dw P []:=fun t ti h=>by simp[look]at h
theorem bD {P:Program} {t:TypeId} {ti:TI} {T:Types} (h:bw P t ti) (hT:dw P T):dw P ((t,ti)::T):=by
 intro t' ti' ht
 simp only[look]at ht
 split at ht
 ·rename_i he
  have:t=t':=by simpa using he
  subst this
  simp only[Option.some.injEq]at ht
  subst ht
  exact h
 ·exact hT t' ti' ht
end Go.Am

/- aT of functions that are handed objects to write to, or give back such; loops by what is seen. -/
namespace Go.Am
open AV
theorem bI.length {M:Nat→Prop} {w:World} {β:aL}:∀{us:List AV} {xs:List Value},bI M w β us xs→us.length=xs.length
 |[],[],_=>rfl
 |_::_,_::_,h=>by simp[bI.length h.2]
 |[],_::_,h=>h.elim
 |_::_,[],h=>h.elim
theorem bI.weak {c c':Ctx} {β β2:aL} {w:World} {ρ:Nat→Option Nat} {M M':Nat→Prop} (hM:∀b,M' b→M b) (hβ:∀k2 k1,ρ k2=some k1→β2 k2=β k1):∀{us vs:List AV} {xs:List Value},eE ρ us vs→bI M w β us xs→bI M' w β2 vs xs
 |[],[],[],_,_=>trivial
 |u::us,v::vs,x::xs,h,hv=>⟨hv.1.weak hM hβ h.1.2,bI.weak (c:=c) (c':=c') hM hβ h.2 hv.2⟩
 |[],_::_,_,h,_=>h.elim
 |_::_,[],_,h,_=>h.elim
 |_::_,_::_,[],_,h=>h.elim
 |[],[],_::_,_,h=>h.elim
theorem RM {nx:Nat} {rl:List (Nat×Nat)} (hr:ia nx rl=true):∀a b k,bf rl a=some k→bf rl b=some k→a=b:=by
 intro a b k ha hb
 have:=List.all_eq_true.1 hr _ (mP ha)
 simp only[Bool.and_eq_true,decide_eq_true_eq]at this
 simpa using List.all_eq_true.1 this.2 _ (mP hb)
theorem Ec {nx:Nat} {rl:List (Nat×Nat)} (hr:ia nx rl=true) {a k:Nat} (ha:bf rl a=some k):a<nx:=by
 have:=List.all_eq_true.1 hr _ (mP ha)
 simp only[Bool.and_eq_true,decide_eq_true_eq]at this
 exact this.1
theorem Vq {M:Nat→Prop} {w:World} {β:aL} {us:List AV} {xs:List Value} (h:bI M w β us xs):aX M w β (iZ us) (if h:xs.length=1 then xs.toArray[0]'(by simpa using(show 0<xs.length by omega))else .tuple xs.toArray):=by
 have hl:=h.length
 match us,xs,h,hl with
 |[],[],_,_=>exact⟨[],rfl,trivial⟩
 |[u],[x],h,_=>exact h.1.bg
 |u::u'::us,x::x'::xs,h,_=>simp only[List.length_cons,Nat.add_eq_right,Nat.add_eq_zero_iff,Nat.succ_ne_zero,and_false,dite_false];exact⟨_,rfl,h⟩
section core
variable {P:Program} {T:Types}
structure xm (T:Types) (fn:Func) (τ:Nat→Option Nat) (pre:aA) (r:cr) (s:aE):Prop where
 ends:Ends T fn r.res s
 AH:∀k o,look k (bT (ee r.post) pre)=some o→∃k1 o1,τ k=some k1∧look k1 s.store=some o1∧o1.row=false∧dG τ o1 o
structure vf (T:Types) (fn:Func) (τ:Nat→Option Nat) (pre:aA) (r:cr) (s:aE):Prop where
 ends:∃vs q us,eG T s fn.results.toList=some (vs,q)∧az q∧eE τ vs us∧r.res=iZ us
 AH:∀k o,look k (bT (ee r.post) pre)=some o→∃k1 o1,τ k=some k1∧look k1 s.store=some o1∧dG τ o1 o
structure oG (rl:List (Nat×Nat)) (K:Nat) (pre:aA) (τ:Nat→Option Nat):Prop where
 inj:∀a b k,τ a=some k→τ b=some k→a=b
 dom:∀k a,τ k=some a→bf rl a=some k∨(K≤k∧k<K+bW)
theorem Qp (hT:dw P T) {f:FuncId} {fn:Func} {x:Code} (hf:aN P f fn x) {args args0:List AV} {pre pre0:aA} {r:cr} {K nx:Nat} (rl:List (Nat×Nat)) (hlen:args0.length≤fn.ntmps) (hr:ia nx rl=true)
  (ha:eE (bf rl) args args0) (hp:kA (bf rl) pre pre0) (hrl:∀a k,bf rl a=some k→∃o,look k pre=some o)
  (hpost:∀k o,look k r.post=some o→(∃o',look k pre=some o')∨(K≤k∧k<K+bW))
  (h:r.need→∀c:Ctx,c.ro=none→(∀k x,c.k0 k=some x→(bf rl k).isSome=true)→aj P c fn.ntmps x ⟨aM 0 args0,pre0,nx⟩ fun e s'=>(e=.normal∨e=.ret)∧∃τ,oG rl K pre τ∧(xm T fn τ pre r s'∨vf T fn τ pre r s')):aB P f K args pre r:=by
 intro need
 refine⟨hpost,fun c D D' β w vs hw0 hMw hrel hD hK hv=>.inl ⟨fn,hf.get,hf.name,by simp[hf.body],?_⟩⟩
 have hobj0:=BL hp
 have hβ0:∀k2 k1,bf rl k2=some k1→(fun a=>(bf rl a).bind β) k2=β k1:=fun k2 k1 h=>by simp[h]
 have hW:aW {c with k0:=fun a=>(bf rl a).bind β,ro:=none} pre0 (fun k=>k<nx) (fun a=>(bf rl a).bind β) w:=by
  refine hrel.weak (c':={c with k0:=fun a=>(bf rl a).bind β,ro:=none}) (ρ:=bf rl) rfl rfl rfl (RM hr) (fun k o h=>.inl (hobj0 k o h)) hβ0 (fun k2 k1 h=>Ec hr h) (fun k2 x hk=>?_) (fun k2 b N hk=>?_) (fun k x hk=>hk)
  ·cases h1:bf rl k2 with
   |none=>simp[h1]at hk
   |some k1=>exact Ec hr h1
  ·cases h1:bf rl k2 with
   |none=>simp[h1]at hk
   |some k1=>simp[h1]at hk;exact hrel.lt k1 b N hk
 have hv0:bI (aI {c with k0:=fun a=>(bf rl a).bind β,ro:=none} pre0 (fun a=>(bf rl a).bind β)) w (fun a=>(bf rl a).bind β) args0 vs:=
  hv.weak (c:=c) (c':=c) (ρ:=bf rl) (wE rfl (fun k o h=>.inl (hobj0 k o h)) hβ0) hβ0 ha
 have hl0:=hv0.length
 have hstart:Rel {c with k0:=fun a=>(bf rl a).bind β,ro:=none} fn.ntmps (fun k=>k<nx) (aM 0 args0) pre0 {tmps:=vs.toArray++Array.replicate (fn.ntmps-vs.toArray.size) undef,defers:=[]} w:=by
  refine⟨.nil,by simp;omega,_,hW,?_⟩
  have:=zx (pre:=#[]) (post:=Array.replicate (fn.ntmps-vs.toArray.size) undef) hv0 rfl
  simpa using this
 refine callsIn_wide.1 (callsIn_of_wp_marks (F:=Fence.wide) (n:=3) hf.get hf.body trivial (wpIn_mono (h need {c with k0:=fun a=>(bf rl a).bind β,ro:=none} rfl (fun k x hk=>by
  cases h1:bf rl k with
  |none=>simp[h1]at hk
  |some k1=>rfl) _ w hstart) ?_))
 rintro e a' w9 ⟨ae,s',rfl,hr9,hex,τ,hτ,hends⟩
 obtain⟨w',hr',hleave⟩:=Rel.leave (P:=P) (fn:=fn) (R:=fun e w'=>∃x,e=.returned x∧dm c pre D' β w (ee r.post) r.res x w') hr9
 -- what the end gives, in the function's own keys
 have hfin:∃x β1 st1,(results fn a'.tmps).run P w'=.ok x w'∧aW {c with k0:=fun a=>(bf rl a).bind β,ro:=none} st1 (fun k=>k<s'.next) β1 w'∧
   (∀k o,look k (bT (ee r.post) pre)=some o→∃k1 o1,τ k=some k1∧look k1 st1=some o1∧dG τ o1 o)∧
   aX (aI {c with k0:=fun a=>(bf rl a).bind β,ro:=none} st1 β1) w' (fun k=>(τ k).bind β1) r.res x:=by
  rcases hends with hends|hends
  ·obtain⟨hdef,x,β1,st1,hrun,hw1,hvx,hrow⟩:=Ee hT hends.ends hr'
   refine⟨x,β1,st1,hrun,hw1,fun k o hk=>?_,hvx.mono (fun b o h1 h2=>⟨h2,h1⟩) fun k x hk=>by simp[aS]at hk⟩
   obtain⟨k1,o1,g1,g2,g3,g4⟩:=hends.AH k o hk
   exact⟨k1,o1,g1,hrow k1 o1 g2 g3,g4⟩
  ·obtain⟨a1,a2,β1,a3,a4⟩:=hr'
   obtain⟨vs1,q,us,h1,hq,h2,h3⟩:=hends.ends
   obtain⟨xs,hxs,hv,hlen⟩:=yZ hT a3 a4 (g:=fun x=>match x with
    |ResultVar.tmp t=>pure (a'.tmps.getD t undef)
    |ResultVar.cell r t=>do let y ←asAddr (a'.tmps.getD r undef);loadVar t y) (fun _=>rfl) (fun _ _=>rfl) h1 hq
   refine⟨if h:xs.length=1 then xs.toArray[0]'(by simpa using(show 0<xs.length by omega))else .tuple xs.toArray,β1,s'.store,?_,a3,hends.AH,?_⟩
   ·have key:results fn a'.tmps=(do
      let vs ←fn.results.mapM fun x=>match x with
       |ResultVar.tmp t=>pure (a'.tmps.getD t undef)
       |ResultVar.cell r t=>do let y ←asAddr (a'.tmps.getD r undef);loadVar t y
      pure (if h:vs.size=1 then vs[0]else Value.tuple vs)):=rfl
    rw[key,Sem.run_bind,Array.mapM_eq_mapM_toList,Sem.run_map,hxs]
    simp only[Result.andThen_ok,Sem.run_pure]
    congr 1
   ·rw[h3]
    exact Vq (hv.weak (c:=c) (c':=c) (ρ:=τ) (fun _ h=>h) (fun k2 k1 h=>by simp[h]) h2)
 obtain⟨x,β1,st1,hrun,hw1,hobj1,hvx⟩:=hfin
 have hkeep1:∀k a,τ k=some a→∀y,β k=some y→β1 a=some y:=by
  intro k a hka y hy
  rcases hτ.dom k a hka with h1|⟨h1,h2⟩
  ·exact hw1.keep a y (by simp only[h1,Option.bind_some];exact hy)
  ·exact absurd (hrel.dom k y hy) (hK k h1 h2).1
 have hβ2:∀k2 k1,τ k2=some k1→(fun k=>match τ k with
   |some a=>β1 a
   |none=>β k) k2=β1 k1:=fun k2 k1 h=>by simp[h]
 have hW2:aW c (bT (ee r.post) pre) D' (fun k=>match τ k with
   |some a=>β1 a
   |none=>β k) w':=by
  have hd2:∀k2 a,τ k2=some a→D' k2:=fun k2 a ha=>by
   rcases hτ.dom k2 a ha with h1|⟨h1,h2⟩
   ·obtain⟨o,ho⟩:=hrl a k2 h1
    cases hb:β k2 with
    |some x=>exact hD _ (hrel.dom k2 _ hb)
    |none=>exact hD _ (hrel.cH k2 o ho hb).2
   ·exact(hK k2 h1 h2).2
  refine hw1.weak (c':=c) (ρ:=τ) rfl rfl rfl hτ.inj (fun k o h=>.inl (hobj1 k o h)) hβ2 hd2 (fun k2 y hk=>?_) (fun k2 b N hk=>?_) (fun k y hk=>?_)
  ·split at hk
   ·rename_i a ha
    exact hd2 k2 a ha
   ·exact hD _ (hrel.dom k2 y hk)
  ·split at hk
   ·exact hw1.lt _ b N hk
   ·exact Nat.lt_of_lt_of_le (hrel.lt k2 b N hk) (by have:=hw1.size;rw[←hw0];exact this)
  ·have hy:=hrel.keep k y hk
   split
   ·rename_i a ha
    exact hkeep1 k a ha y hy
   ·exact hy
 have hO:dm c pre D' β w (ee r.post) r.res x w':=by
  refine⟨_,hW2,⟨fun b o hb ho=>?_,fun k y hk=>?_⟩,?_⟩
  ·have hlt:b<c.w0.heap.size:=by rw[hw0];exact xX ho
   have hmw:¬c.Mw b:=fun hm=>hb (hMw b hm)
   refine⟨?_,?_⟩
   ·rw[hw1.block b hlt hmw]
    show c.w0.heap[b]?=_
    rw[hw0];exact ho
   ·rintro(hm|⟨k,o',N,h1,h2,h3⟩)
    ·exact hb (.inl hm)
    ·rcases hW2.new k o' b N h1 h2 h3 with h4|h4
     ·omega
     ·exact hmw h4
  ·split
   ·rename_i a ha
    exact hkeep1 k a ha y hk
   ·exact hk
  ·refine hvx.mono (fun b o h1 h2=>⟨h2,fun h3=>h1 (wE (c:={c with k0:=fun a=>(bf rl a).bind β,ro:=none}) rfl (fun k o h=>.inl (hobj1 k o h)) hβ2 b h3)⟩) (fun k y hk=>?_)
   cases h1:τ k with
   |none=>simp[h1]at hk
   |some a=>simpa [h1]using hk
 rcases hex with rfl|rfl
 ·exact hleave x hrun ⟨x,rfl,hO⟩
 ·exact hleave x hrun ⟨x,rfl,hO⟩
theorem qa (hT:dw P T) {f:FuncId} {fn:Func} {x:Code} (hf:aN P f fn x) {args args0:List AV} {pre pre0:aA} {r:cr} {K nx:Nat} (rl:List (Nat×Nat)) (hlen:args0.length≤fn.ntmps) (hr:ia nx rl=true)
  (ha:eE (bf rl) args args0) (hp:kA (bf rl) pre pre0) (hrl:∀a k,bf rl a=some k→∃o,look k pre=some o)
  (hpost:∀k o,look k r.post=some o→(∃o',look k pre=some o')∨(K≤k∧k<K+bW))
  (h:r.need→∀c:Ctx,(∀k x,c.k0 k=some x→(bf rl k).isSome=true)→aj P c fn.ntmps x ⟨aM 0 args0,pre0,nx⟩ fun e s'=>(e=.normal∨e=.ret)∧∃τ,oG rl K pre τ∧(xm T fn τ pre r s'∨vf T fn τ pre r s')):aB P f K args pre r:=
 Qp hT hf rl hlen hr ha hp hrl hpost fun need c _=>h need c
end core
def gy (nx:Nat) (vs:List AV):Bool:=(vs.all fun v=>!v.isTuple)&&(aU vs).all fun k=>decide (k<nx)
def ff (nx:Nat):aA→Prop
 |[]=>True
 |(k,o)::l=>(k<nx∧∀i,i<o.len→keys (o.f i)=[])∧ff nx l
theorem Gq {nx:Nat}:∀{os:aA},ff nx os→∀{k:Nat} {o:ak},look k os=some o→k<nx∧∀i,i<o.len→keys (o.f i)=[]
 |[],_,k,o,h=>by simp[look]at h
 |(j,b)::l,h,k,o,hk=>by
  simp only[look]at hk
  split at hk
  ·rename_i he
   have:j=k:=by simpa using he
   subst this
   simp only[Option.some.injEq]at hk
   subst hk
   exact h.1
  ·exact Gq h.2 hk
theorem DY {nx:Nat} {u:AV} (hk:∀k∈keys u,k<nx):fz (fun k=>if k<nx then some k else none) u u:=by
 refine⟨rfl,fun M w β cs hc=>?_⟩
 have gen:∀{l:List AV} {cs:List Value},aH M w β l cs→(∀k∈aU l,k<nx)→aH M w (fun k=>(if k<nx then some k else none).bind β) l cs:=by
  intro l cs h
  generalize hβ:β=β' at h
  induction h with
  |nil=>exact fun _=>.nil
  |bool _ ih=>exact fun h=>.bool (ih hβ (by simpa [aU,keys]using h))
  |int _ ih=>exact fun h=>.int (ih hβ (by simpa [aU,keys]using h))
  |rat hs h1 h2 _ _ _ ih=>exact fun h=>.rat hs h1 h2 (ih hβ (by simpa [aU,keys]using h))
  |mag h1 h2 _ ih=>exact fun h=>.mag h1 h2 (ih hβ (by simpa [aU,keys]using h))
  |agg _ _ ih1 ih2=>exact fun h=>.agg (ih1 hβ fun k hk=>h k (by simp only[aU,keys];exact List.mem_append_left _ hk)) (ih2 hβ fun k hk=>h k (by simp only[aU];exact List.mem_append_right _ hk))
  |aq h1 h2 h3 h4 h5 _ _ ih=>exact fun h=>.aq h1 h2 h3 h4 h5 (ih hβ (by simpa [aU,keys]using h))
  |cE hq h1 h2 h3 h4 h5 _ _ ih=>exact fun h=>.cE hq h1 h2 h3 h4 h5 (ih hβ (by simpa [aU,keys]using h))
  |vnil _ ih=>exact fun h=>.vnil (ih hβ (by simpa [aU,keys]using h))
  |void hx _ ih=>exact fun h=>.void hx (ih hβ (by simpa [aU,keys]using h))
  |str _ ih=>exact fun h=>.str (ih hβ (by simpa [aU,keys]using h))
  |bO h1 h2 _ _ ih=>exact fun h=>.bO h1 h2 (ih hβ (by simpa [aU,keys]using h))
  |@ptr _ k _ _ _ _ _ _ _ _ hk _ ih=>
   intro h
   have:k<nx:=h k (by simp[aU,keys])
   exact .ptr (by simp only[this,if_true,Option.bind_some];rw[←hβ]at hk ⊢;exact hk) (ih hβ fun k hk=>h k (by simp only[aU];exact List.mem_append_right _ hk))
  |@own _ k _ _ _ _ _ _ _ _ _ hk h1 h2 h4 h3 _ ih=>
   intro h
   have:k<nx:=h k (by simp[aU,keys])
   exact .own (by simp only[this,if_true,Option.bind_some];rw[←hβ]at hk ⊢;exact hk) h1 h2 h4 h3 (ih hβ fun k hk=>h k (by simp only[aU];exact List.mem_append_right _ hk))
  |own0 h3 _ ih=>exact fun h=>.own0 h3 (ih hβ fun k hk=>h k (by simp only[aU];exact List.mem_append_right _ hk))
  |bn ha _ _ ih1 ih2=>exact fun h=>.bn ha (ih1 hβ fun k hk=>h k (by simp only[aU,keys,List.append_nil]at hk ⊢;exact List.mem_append_left _ hk)) (ih2 hβ fun k hk=>h k (by simp only[aU];exact List.mem_append_right _ hk))
  |func _ hc _ ih1 ih2=>exact fun h=>.func (ih1 hβ fun k hk=>h k (by simp only[aU,keys];exact List.mem_append_left _ hk)) hc (ih2 hβ fun k hk=>h k (by simp only[aU];exact List.mem_append_right _ hk))
 exact gen hc fun k h=>hk k (by rw[Av]at h;exact h)
theorem Eg {nx:Nat}:∀{vs:List AV},gy nx vs=true→eE (fun k=>if k<nx then some k else none) vs vs
 |[],_=>trivial
 |v::vs,h=>by
  simp only[gy,List.all_cons,aU,List.all_append,Bool.and_eq_true,Bool.not_eq_true']at h
  obtain⟨⟨h1,h2⟩,h3,h4⟩:=h
  refine⟨⟨h1,DY fun k hk=>by simpa using List.all_eq_true.1 h3 k hk⟩,Eg ?_⟩
  simp only[gy,Bool.and_eq_true]
  exact⟨h2,h4⟩
theorem jN {c:Ctx} {s':aE} {ls:List Nat} {vs:List AV} {os:aA} {nx:Nat} (hv:aR ls s'=some (vs,os)) (h0:∀k x,c.k0 k=some x→k<nx) (hok:gy nx vs=true) (ho:ff nx os):∃ρ,Le c ρ s' ⟨aD ls vs,os,nx⟩:=by
 unfold aR at hv
 simp only[Option.some.injEq,Prod.mk.injEq]at hv
 obtain⟨rfl,rfl⟩:=hv
 refine⟨fun k=>if k<nx then some k else none,?_,Ah (Eg hok),fun k2 o2 hk=>?_,fun k2 k1 hk=>?_,fun k x hk=>by simp[h0 k x hk]⟩
 ·intro a b k ha hb
  split at ha<;>split at hb<;>simp_all
 ·obtain⟨h1,h2⟩:=Gq ho hk
  refine .inl ⟨k2,o2,by simp[h1],?_,⟨rfl,rfl,rfl,rfl,fun i hi=>DY fun k hk=>by rw[h2 i hi]at hk;simp at hk⟩⟩
  rw[kj]at hk
  split at hk
  ·exact hk
  ·simp at hk
 ·split at hk
  ·assumption
  ·simp at hk
section rules
variable {P:Program} {c:Ctx} {nt:Nat} {s:aE} {Q:ah→aE→Prop} {T:Types} {Γ:aT}
theorem aj.fl {x y:Code} {i:Nat} (hx:x=.block i (.loop y)) (ls:List Nat) (nx:Nat) (h0:∀k x,c.k0 k=some x→k<nx) {α:Type} (vs:α→List AV) (os:α→aA) (hok:∀a,gy nx (vs a)=true) (ho:∀a,ff nx (os a)) (I:α→Prop) (μ:α→Nat) (j:α)
  (hv:aR ls s=some (vs j,os j)) (hI:I j)
  (round:∀j,I j→aj P c nt y ⟨aD ls (vs j),os j,nx⟩ (cK (fun s'=>∃k,aR ls s'=some (vs k,os k)∧I k∧μ k<μ j) (inBlock i Q))):aj P c nt x s Q:=
 aj.fU hx (fun a=>⟨aD ls (vs a),os a,nx⟩) I μ j (jN hv h0 (hok j) (ho j)) hI fun j hj=>(round j hj).mono fun e s' h=>by
  cases e with
  |normal=>
   obtain⟨k,h1,h2,h3⟩:=h
   exact⟨k,jN h1 h0 (hok k) (ho k),h2,h3⟩
  |exit i=>exact h
  |ret=>exact h
theorem aj.gY {x:Code} {ls:List Nat} {nx:Nat} {vs:List AV} {os:aA} (hv:aR ls s=some (vs,os)) (h0:∀k x,c.k0 k=some x→k<nx) (hok:gy nx vs=true) (ho:ff nx os) (h:aj P c nt x ⟨aD ls vs,os,nx⟩ Q):aj P c nt x s Q:=
 .jd (jN hv h0 hok ho) h
theorem aC.gY {l:List Code} {ls:List Nat} {nx:Nat} {vs:List AV} {os:aA} (hv:aR ls s=some (vs,os)) (h0:∀k x,c.k0 k=some x→k<nx) (hl:l.isEmpty=false) (hok:gy nx vs=true) (ho:ff nx os) (h:aC P c nt l ⟨aD ls vs,os,nx⟩ Q):aC P c nt l s Q:=
 .weak hl (jN hv h0 hok ho) h
theorem aC.wV (hT:dw P T) (hΓ:bp P Γ) (hm:P.follows .mixedOrders=true) {fn:Func} {forks:List Nat} (n:Nat) {l:List Code} {ls:List Nat} {nx:Nat} {vs:List AV} {os:aA} (hv:aR ls s=some (vs,os)) (h0:∀k x,c.k0 k=some x→k<nx)
  (hok:gy nx vs=true) (ho:ff nx os) {t:aa (List AV)} (hc:b7 T Γ forks n fn l ⟨aD ls vs,os,nx⟩=some t) (hd:(l.all fun x=>bX nt x)=true) (hl:l.isEmpty=false) {res:AV} (h:t.all fun _ us=>dY us res):aC P c nt l s (Fin T fn res):=
 .gY hv h0 hl hok ho (.fin hT hΓ hm n hc hd h)
theorem aC.dB (hT:dw P T) (hΓ:bp P Γ) (hm:P.follows .mixedOrders=true) {forks:List Nat} (n:Nat) {l:List Code} {ls:List Nat} {nx:Nat} {vs:List AV} {os:aA} (hv:aR ls s=some (vs,os)) (h0:∀k x,c.k0 k=some x→k<nx)
  (hok:gy nx vs=true) (ho:ff nx os) (ls2:List Nat) {t:aa (List AV×aA)} (hc:aJ T Γ forks n ls2 l ⟨aD ls vs,os,nx⟩=some t) (hd:(l.all fun x=>bX nt x)=true) (hl:l.isEmpty=false) (h:t.all fun e v=>∀s',aR ls2 s'=some v→Q e s'):aC P c nt l s Q:=
 .gY hv h0 hl hok ho (.aV hT hΓ hm n ls2 hc hd h)
theorem aj.dB (hT:dw P T) (hΓ:bp P Γ) (hm:P.follows .mixedOrders=true) {x:Code} {forks:List Nat} (n:Nat) {ls:List Nat} {nx:Nat} {vs:List AV} {os:aA} (hv:aR ls s=some (vs,os)) (h0:∀k x,c.k0 k=some x→k<nx)
  (hok:gy nx vs=true) (ho:ff nx os) (ls2:List Nat) {t:aa (List AV×aA)} (hc:aJ T Γ forks n ls2 [x] ⟨aD ls vs,os,nx⟩=some t) (hd:bX nt x=true) (h:t.all fun e v=>∀s',aR ls2 s'=some v→Q e s'):aj P c nt x s Q:=
 .gY hv h0 hok ho (.aV hT hΓ hm n ls2 hc hd h)
end rules
theorem tF {T:Types} {fn:Func} {ls:List Nat} {vs us ws:List AV} {os ps pre:aA} {s':aE} {τ:Nat→Option Nat} {r:cr} (hv:aR ls s'=some (vs,os)) (hr:jg (aD ls vs) fn.results.toList=some us) (hle:eE τ us ws) (hres:r.res=iZ ws)
  (he:bT (ee r.post) pre=ps) (ho:kA τ os ps):vf T fn τ pre r s':=by
 unfold aR at hv
 simp only[Option.some.injEq,Prod.mk.injEq]at hv
 obtain⟨rfl,rfl⟩:=hv
 refine⟨⟨us,[],ws,Ba hr,trivial,hle,hres⟩,fun k o hk=>?_⟩
 rw[he]at hk
 obtain⟨k1,o1,g1,g2,g3⟩:=BL ho k o hk
 refine⟨k1,o1,g1,?_,g3⟩
 rw[kj]at g2
 split at g2
 ·exact g2
 ·simp at g2
def qU (g:Nat→List AV→Option cr):Spec:=fun K args pre=>match cW pre args with
 |some as=>g K as
 |none=>none
theorem AM {P:Program} {f:FuncId} {g:Nat→List AV→Option cr} (h:∀K args r,aU args=[]→g K args=some r→aB P f K args [] r):
  ∀K args pre r,qU g K args pre=some r→aB P f K args pre r:=by
 intro K args pre r hg
 unfold qU at hg
 split at hg
 ·rename_i as has
  have hf:=h K as r (uY has) hg
  intro need
  obtain⟨h1,h2⟩:=hf need
  refine⟨fun k o ho=>.inr ((h1 k o ho).resolve_left fun⟨o',h⟩=>by simp[look]at h),fun c D D' β w vs hw0 hMw hrel hD hK hv=>?_⟩
  have hv':bI (aI c pre β) w aS as vs:=xC hrel (fun _ _ h=>h) has hv
  exact(hf.frame (pre':=pre) (fun k o hk=>by simp[look]at hk)).use need hrel (fun _ _ h=>h) hD hK (hv'.mono (fun b o h1 h2=>⟨h2,h1⟩) fun k x hx=>by simp[aS]at hx)
 ·simp at hg
theorem HE {K k a:Nat} {pre:aA} (h:K≤k∧k<K+bW):oG [] K pre (bf [(k,a)]):=
 ⟨fun x y z hx hy=>by
  simp only[bf,look]at hx hy
  split at hx<;>split at hy<;>simp_all,fun x y hx=>by
  simp only[bf,look]at hx
  split at hx
  ·rename_i he
   have:k=x:=by simpa using he
   subst this
   exact .inr h
  ·simp at hx⟩
theorem wN {K k a:Nat} {pre:aA}:oG [(a,k)] K pre (bf [(k,a)]):=
 ⟨fun x y z hx hy=>by
  simp only[bf,look]at hx hy
  split at hx<;>split at hy<;>simp_all,fun x y hx=>by
  simp only[bf,look]at hx ⊢
  split at hx
  ·rename_i he
   have:k=x:=by simpa using he
   subst this
   simp only[Option.some.injEq]at hx
   subst hx
   exact .inl (by simp)
  ·simp at hx⟩
theorem hG {c:Ctx} (h:c.k0=aS) {nx:Nat}:∀k x,c.k0 k=some x→k<nx:=fun k x hk=>by rw[h]at hk;simp[aS]at hk
theorem cC {ls:List Nat} {s':aE} {vs us:List AV} {os ps:aA} (hv:aR ls s'=some (vs,os)) (h1:vs=us) (h2:os=ps):aR ls s'=some (us,ps):=by rw[hv,h1,h2]
end Go.Am

/- Rational numbers: signs, sizes, quotients of natural numbers. -/
namespace Go.Am
open AV
def ej (b:Bool) (n:Nat):Int:=if b then-(n:Int)else n
def sQ (b:Bool) (n d:Nat):Rat:=mkRat (ej b n) d
def bV (q:Rat):Nat:=max (aY q.num.natAbs) (aY q.den)
theorem xH {b:Bool} {n:Nat}:(ej b n).natAbs=n:=by unfold ej;split<;>simp
theorem WN {b:Bool}:ej b 0=0:=by unfold ej;split<;>simp
theorem IX {b:Bool} {n g:Nat} (h:g∣n):ej b n/(g:Int)=ej b (n/g):=by
 unfold ej
 split
 ·rw[Int.neg_ediv_of_dvd (Int.natCast_dvd_natCast.2 h)];simp
 ·simp
theorem fW {q:Rat}:q<0↔q.num<0:=by rw[Rat.lt_iff];simp
theorem xM {b:Bool} {n d:Nat} (hd:d≠0):(sQ b n d).num=ej b (n/Nat.gcd n d):=by
 unfold sQ
 rw[Rat.num_mkRat,if_neg hd,xH,Nat.gcd_comm,IX (Nat.gcd_dvd_left n d)]
theorem EC {b:Bool} {n d:Nat} (hd:d≠0):(sQ b n d).den=d/Nat.gcd n d:=by
 unfold sQ
 rw[Rat.den_mkRat,if_neg hd,xH,Nat.gcd_comm]
theorem AJ {b:Bool} {d:Nat}:sQ b 0 d=0:=by unfold sQ;rw[WN];simp
theorem XO {b:Bool} {n d:Nat} (hn:n≠0) (hd:d≠0):decide (sQ b n d<0)=b:=by
 have h1:0<n/Nat.gcd n d:=Nat.div_pos (Nat.le_of_dvd (by omega) (Nat.gcd_dvd_left n d)) (Nat.gcd_pos_of_pos_left _ (by omega))
 cases b
 ·simp only[decide_eq_false_iff_not,fW,xM hd,ej];simp;omega
 ·simp only[decide_eq_true_eq,fW,xM hd,ej];simp;omega
theorem qL {q:Rat}:Sz q (bV q):=
 ⟨Nat.lt_of_lt_of_le (gp.1 (Nat.le_refl _)) (Nat.pow_le_pow_right (by omega) (Nat.le_max_left _ _)),Nat.lt_of_lt_of_le (gp.1 (Nat.le_refl _)) (Nat.pow_le_pow_right (by omega) (Nat.le_max_right _ _))⟩
theorem KU {q:Rat} {n:Nat}:Sz q n↔bV q≤n:=by
 unfold Sz bV
 rw[←gp,←gp];omega
theorem fj {q r:Rat} {n k:Nat} (h:q=r) (hs:Sz r k):bt (.rat q n) (.rat r k):=by
 subst h
 refine⟨rfl,fun M w cs hc=>?_⟩
 cases hc with
 |rat _ h1 h2 h3=>cases h3;exact .rat hs h1 h2 .nil
theorem Ar {b:Bool} {n d k:Nat} (hd:d≠0) (hn:n<2^k) (hdk:d<2^k):Sz (sQ b n d) k:=by
 refine⟨?_,?_⟩
 ·rw[xM hd,xH];exact Nat.lt_of_le_of_lt (Nat.div_le_self _ _) hn
 ·rw[EC hd];exact Nat.lt_of_le_of_lt (Nat.div_le_self _ _) hdk
theorem iq (q:Rat):sQ (decide (q<0)) q.num.natAbs q.den=q:=by
 unfold sQ
 have:ej (decide (q<0)) q.num.natAbs=q.num:=by
  unfold ej
  by_cases h:q<0
  ·have:=fW.1 h;simp[h];omega
  ·have:¬q.num<0:=fun h'=>h (fW.2 h')
   simp[h];omega
 rw[this,Rat.mkRat_self]
theorem pT {b:Bool} {x y n d k:Nat} (hn:n≠0) (hd:d≠0) (hx:x=n/Nat.gcd n d) (hy:y=if d/Nat.gcd n d=1 then 0 else d/Nat.gcd n d) (hs:Sz (sQ b n d) k):bt (.agg [.bool b,.mag x,.mag y]) (.rat (sQ b n d) k):=
 nL hs (XO hn hd).symm (by rw[xM hd,xH,hx]) (by rw[EC hd,hy])
theorem jH {k:Nat}:bt (.agg [.bool false,.mag 0,.mag 0]) (.rat 0 (k+1)):=
 nL ⟨by simp[Nat.two_pow_pos],by simp⟩ (by decide) rfl rfl
section down
variable {P:Program} {c:Ctx} {nt:Nat} {s:aE} {Q:ah→aE→Prop} {T:Types}
def cR (c:Ctx) (Q:ah→aE→Prop) (e:ah) (s':aE):Prop:=Q e s'∨∃s2 ρ,Le c ρ s' s2∧Q e s2
theorem aj.down {x:Code} (h:aj P c nt x s (cR c Q)):aj P c nt x s Q:=by
 intro a w hr
 refine wpIn_mono (h a w hr) ?_
 rintro e a' w' ⟨ae,s',h1,h2,hq|⟨s2,ρ,hle,hq⟩⟩
 ·exact⟨ae,s',h1,h2,hq⟩
 ·exact⟨ae,s2,h1,hle.rel h2,hq⟩
theorem uN {fn:Func} {ls:List Nat} {vs:List AV} {os:aA} {nx:Nat} {s':aE} {e:ah} {t:aa (List AV)} {res:AV} (he:jr T fn e ⟨aD ls vs,os,nx⟩=some t) (hv:aR ls s'=some (vs,os)) (h0:∀k x,c.k0 k=some x→k<nx) (hok:gy nx vs=true) (ho:ff nx os)
  (h:t.all fun _ us=>dY us res):cR c (Fin T fn res) e s':=by
 obtain⟨ρ,hle⟩:=jN hv h0 hok ho
 exact .inr ⟨_,ρ,hle,CN he h⟩
theorem aC.g8 (hT:dw P T) {Γ:aT} (hΓ:bp P Γ) (hm:P.follows .mixedOrders=true) {fn:Func} {forks:List Nat} (n:Nat) {l:List Code} {ls:List Nat} {nx:Nat} {vs:List AV} {os:aA} (hv:aR ls s=some (vs,os)) (h0:∀k x,c.k0 k=some x→k<nx)
  (hok:gy nx vs=true) (ho:ff nx os) {t:aa (List AV)} (hc:b7 T Γ forks n fn l ⟨aD ls vs,os,nx⟩=some t) (hd:(l.all fun x=>bX nt x)=true) (hl:l.isEmpty=false) {res:AV} (h:t.all fun _ us=>dY us res):aC P c nt l s (cR c (Fin T fn res)):=
 (aC.wV hT hΓ hm n hv h0 hok ho hc hd hl h).mono fun _ _ h=>.inl h
end down
theorem fZ {P:Program} {T:Types} (hT:dw P T) {f:FuncId} {fn:Func} {x:Code} (hf:aN P f fn x) {args:List AV} {r:cr} (hk:aU args=[]) (hlen:args.length≤fn.ntmps) (hpost:r.post=[])
  (h:r.need→∀c:Ctx,(∀nx k x,c.k0 k=some x→k<nx)→aj P c fn.ntmps x ⟨aM 0 args,[],0⟩ (cR c (Fin T fn r.res))) (K:Nat) (pre:aA):aB P f K args pre r:=
 gH hT hf hk hlen hpost (fun need c h0=>.down (h need c fun _=>hG h0)) K pre
mutual
/-- What is known of the sizes of numbers in values. -/
def Jx:AV→Prop
 |.rat q n=>Sz q n
 |.agg l=>pg l
 |_=>True
def pg:List AV→Prop
 |[]=>True
 |a::l=>Jx a∧pg l
end
theorem aH.sz {M:Nat→Prop} {w:World} {β:aL} {l:List AV} {cs:List Value} (h:aH M w β l cs):pg l:=by
 induction h with
 |nil=>trivial
 |rat hs _ _ _ _ _ ih=>exact⟨hs,ih⟩
 |agg _ _ ih1 ih2=>exact⟨ih1,ih2⟩
 |aq _ _ _ _ _ _ _ ih=>exact⟨trivial,ih⟩
 |cE _ _ _ _ _ _ _ _ ih=>exact⟨trivial,ih⟩
 |bO _ _ _ _ ih=>exact⟨trivial,ih⟩
 |func _ _ _ _ ih=>exact⟨trivial,ih⟩
 |bn _ _ _ _ ih=>exact⟨trivial,ih⟩
 |_=>rename_i ih;exact⟨trivial,ih⟩
theorem bI.sz {M:Nat→Prop} {w:World} {β:aL}:∀{l:List AV} {xs:List Value},bI M w β l xs→pg l
 |[],[],_=>trivial
 |a::l,x::xs,h=>by
  obtain⟨⟨cs,h1,_⟩,h2⟩:=h
  exact⟨h1.sz.1,h2.sz⟩
 |[],_::_,h=>h.elim
 |_::_,[],h=>h.elim
theorem Qx {P:Program} {f:FuncId} {K:Nat} {args:List AV} {pre:aA} {r:cr} (hp:∀k o,look k r.post=some o→(∃o',look k pre=some o')∨(K≤k∧k<K+bW)) (h:pg args→aB P f K args pre r):aB P f K args pre r:=
 fun need=>⟨hp,fun c D D' β w vs h1 h2 h3 h4 h5 hv=>(h hv.sz need).2 c D D' β w vs h1 h2 h3 h4 h5 hv⟩
theorem gE {P:Program} {f:FuncId} {K:Nat} {args:List AV} {pre:aA} {v:AV} {l:List Prop} (h:pg args→aB P f K args pre ⟨v,[],l⟩):aB P f K args pre ⟨v,[],l⟩:=
 Qx (fun k o hk=>by simp[look]at hk) h
theorem g9 {N n:Nat} (h:N<2^n) (hn:n<2^44):nl N<2^40:=by
 have h1:N<2^(32*(n/32+1)):=Nat.lt_of_lt_of_le h (Nat.pow_le_pow_right (by omega) (by omega))
 have:=cq.2 h1
 omega
theorem XG {q:Rat}:(if q.den=1 then 0 else q.den)≤q.den:=by split<;>omega
theorem Sz.gk {q:Rat} {n:Nat} (h:Sz q n) (hn:n<2^44):nl q.num.natAbs<2^40∧nl q.den<2^40∧nl (if q.den=1 then 0 else q.den)<2^40:=
 ⟨g9 h.1 hn,g9 h.2 hn,Nat.lt_of_le_of_lt (fA XG) (g9 h.2 hn)⟩
theorem Sz.pos {q:Rat} {n:Nat} (h:Sz q n):0<n:=by
 rcases Nat.eq_zero_or_pos n with h1|h1
 ·subst h1;have:=h.2;have:=q.den_nz;omega
 ·exact h1
theorem Sz.more {q:Rat} {n m:Nat} (h:Sz q n) (hm:n≤m):Sz q m:=
 ⟨Nat.lt_of_lt_of_le h.1 (Nat.pow_le_pow_right (by omega) hm),Nat.lt_of_lt_of_le h.2 (Nat.pow_le_pow_right (by omega) hm)⟩
theorem Co {a:Int} {d:Nat}:(mkRat a d).num.natAbs≤a.natAbs:=by
 rw[Rat.num_mkRat]
 split
 ·simp
 ·rw[Int.natAbs_ediv_of_dvd]
  ·exact Nat.div_le_self _ _
  ·exact Int.ofNat_dvd_left.2 (Nat.gcd_dvd_right _ _)
theorem E8 {a:Int} {d:Nat} (h:d≠0):(mkRat a d).den≤d:=by
 rw[Rat.den_mkRat,if_neg h]
 exact Nat.div_le_self _ _
theorem Sz.add {q r:Rat} {n m:Nat} (h:Sz q n) (h':Sz r m):Sz (q+r) (n+m+1):=by
 rw[Rat.add_def']
 have d0:q.den*r.den≠0:=Nat.mul_ne_zero q.den_nz r.den_nz
 have e:2^(n+m+1)=2^n*2^m+2^n*2^m:=by rw[Nat.pow_succ,Nat.pow_add];omega
 have b1:q.num.natAbs*r.den≤2^n*2^m:=Nat.mul_le_mul (Nat.le_of_lt h.1) (Nat.le_of_lt h'.2)
 have b2:r.num.natAbs*q.den<2^m*2^n:=Nat.mul_lt_mul'' h'.1 h.2
 have b3:q.den*r.den≤2^n*2^m:=Nat.mul_le_mul (Nat.le_of_lt h.2) (Nat.le_of_lt h'.2)
 have b4:0<2^n*2^m:=Nat.mul_pos (Nat.two_pow_pos _) (Nat.two_pow_pos _)
 rw[Nat.mul_comm (2^m)]at b2
 refine⟨Nat.lt_of_le_of_lt Co ?_,Nat.lt_of_le_of_lt (E8 d0) (by omega)⟩
 have b5:=Int.natAbs_add_le (q.num*r.den) (r.num*q.den)
 rw[Int.natAbs_mul,Int.natAbs_mul,Int.natAbs_natCast,Int.natAbs_natCast]at b5
 omega
theorem Sz.neg {q:Rat} {n:Nat} (h:Sz q n):Sz (-q) n:=by
 refine⟨?_,?_⟩
 ·rw[Rat.neg_num,Int.natAbs_neg];exact h.1
 ·rw[Rat.neg_den];exact h.2
theorem Sz.sub {q r:Rat} {n m:Nat} (h:Sz q n) (h':Sz r m):Sz (q-r) (n+m+1):=by
 rw[Rat.sub_eq_add_neg];exact h.add h'.neg
theorem Sz.mul {q r:Rat} {n m:Nat} (h:Sz q n) (h':Sz r m):Sz (q*r) (n+m):=by
 rw[Rat.mul_def']
 have d0:q.den*r.den≠0:=Nat.mul_ne_zero q.den_nz r.den_nz
 refine⟨Nat.lt_of_le_of_lt Co ?_,Nat.lt_of_le_of_lt (E8 d0) ?_⟩
 ·rw[Int.natAbs_mul,Nat.pow_add];exact Nat.mul_lt_mul'' h.1 h'.1
 ·rw[Nat.pow_add];exact Nat.mul_lt_mul'' h.2 h'.2
theorem Sz.inv {q:Rat} {n:Nat} (h:Sz q n):Sz q⁻¹ n:=by
 by_cases h0:q=0
 ·subst h0
  rw[Rat.inv_zero]
  exact h
 ·have hn:q.num≠0:=fun h=>h0 (Rat.num_eq_zero.1 h)
  refine⟨?_,?_⟩
  ·rw[Rat.num_inv,Int.natAbs_mul,Int.natAbs_natCast,Int.natAbs_sign_of_ne_zero hn,Nat.one_mul];exact h.2
  ·rw[Rat.den_inv,if_neg hn];exact h.1
theorem Sz.div {q r:Rat} {n m:Nat} (h:Sz q n) (h':Sz r m):Sz (q/r) (n+m):=by
 rw[Rat.div_def];exact h.mul h'.inv
def dx (q:Rat):Int:=if q<0 then-1 else if 0<q then 1 else 0
def dS (q r:Rat):Int:=if q<r then-1 else if r<q then 1 else 0
end Go.Am

/- aT of functions that are handed a pointer to an object and leave it changed. -/
namespace Go.Am
open AV
end Go.Am

/- aT that the evaluator itself writes: of functions that only read, without a loop of unknown length. -/
namespace Go.Am
open AV
mutual
/-- One of two values, by a condition that is not known. -/
def cT (b:Bool):AV→AV→Option AV
 |.rat q n,.rat r m=>some (.rat (cond b q r) (max n m))
 |.int k x,.int j y=>match isKind k j with
  |true=>some (.int k (cond b x y))
  |false=>none
 |.bool x,.bool y=>some (.bool (cond b x y))
 |.aq e n f,.aq e' m g=>match e==e' with
  |true=>some (.aq e (cond b n m) fun i=>cond b (f i) (g i))
  |false=>none
 |.nil,.nil=>some .nil
 |.nil,.aq e n f=>match Nat.blt 0 e with
  |true=>some (.aq e (cond b 0 n) f)
  |false=>none
 |.aq e n f,.nil=>match Nat.blt 0 e with
  |true=>some (.aq e (cond b n 0) f)
  |false=>none
 |.agg l,.agg m=>match kP b l m with
  |some x=>some (.agg x)
  |none=>none
 |_,_=>none
def kP (b:Bool):List AV→List AV→Option (List AV)
 |[],[]=>some []
 |u::l,v::m=>match cT b u v,kP b l m with
  |some x,some y=>some (x::y)
  |_,_=>none
 |_,_=>none
end
mutual
theorem NJ:∀{u v x:AV},cT true u v=some x→bt u x
 |.rat q n,v,x,h=>by
  cases v<;>simp only[cT,Option.some.injEq,reduceCtorEq]at h
  subst h;exact en (Nat.le_max_left ..)
 |.int k a,v,x,h=>by
  cases v<;>simp only[cT,reduceCtorEq]at h
  split at h
  ·simp only[Option.some.injEq]at h;subst h;exact .refl _
  ·simp at h
 |.bool a,v,x,h=>by
  cases v<;>simp only[cT,Option.some.injEq,reduceCtorEq]at h
  subst h;exact .refl _
 |.aq e n f,v,x,h=>by
  cases v<;>simp only[cT,reduceCtorEq]at h
  ·split at h
   ·simp only[Option.some.injEq]at h;subst h;exact .refl _
   ·simp at h
  ·split at h
   ·simp only[Option.some.injEq]at h;subst h;exact .refl _
   ·simp at h
 |.nil,v,x,h=>by
  cases v<;>simp only[cT,Option.some.injEq,reduceCtorEq]at h
  ·split at h
   ·rename_i he
    simp only[Option.some.injEq]at h;subst h
    exact iT (by rw[Nat.blt_eq]at he;exact he)
   ·simp at h
  ·subst h;exact .refl _
 |.agg l,v,x,h=>by
  cases v<;>simp only[cT,reduceCtorEq]at h
  split at h
  ·rename_i hl
   simp only[Option.some.injEq]at h;subst h;exact dJ (zg hl)
  ·simp at h
 |.mag _,v,x,h=>by simp[cT]at h
 |.cE _ _ _ _,v,x,h=>by simp[cT]at h
 |.void,v,x,h=>by simp[cT]at h
 |.str _,v,x,h=>by simp[cT]at h
 |.bO _,v,x,h=>by simp[cT]at h
 |.ptr _ _ _ _ _,v,x,h=>by simp[cT]at h
 |.own _ _ _ _,v,x,h=>by simp[cT]at h
 |.func _ _,v,x,h=>by simp[cT]at h
 |.tuple _,v,x,h=>by simp[cT]at h
 |.bn _ _,v,x,h=>by simp[cT]at h
theorem zg:∀{u v x:List AV},kP true u v=some x→dD u x
 |[],v,x,h=>by
  cases v<;>simp only[kP,Option.some.injEq,reduceCtorEq]at h
  subst h;trivial
 |a::l,v,x,h=>by
  cases v<;>simp only[kP,reduceCtorEq]at h
  split at h
  ·rename_i h1 h2
   simp only[Option.some.injEq]at h;subst h;exact⟨NJ h1,zg h2⟩
  ·simp at h
end
mutual
theorem QZ:∀{u v x:AV},cT false u v=some x→bt v x
 |.rat q n,v,x,h=>by
  cases v<;>simp only[cT,Option.some.injEq,reduceCtorEq]at h
  subst h;exact en (Nat.le_max_right ..)
 |.int k a,v,x,h=>by
  cases v<;>simp only[cT,reduceCtorEq]at h
  split at h
  ·rename_i hk
   have:=x3 hk
   subst this
   simp only[Option.some.injEq]at h;subst h;exact .refl _
  ·simp at h
 |.bool a,v,x,h=>by
  cases v<;>simp only[cT,Option.some.injEq,reduceCtorEq]at h
  subst h;exact .refl _
 |.aq e n f,v,x,h=>by
  cases v<;>simp only[cT,reduceCtorEq]at h
  ·split at h
   ·rename_i hk
    have:=eq_of_beq hk
    subst this
    simp only[Option.some.injEq]at h;subst h;exact .refl _
   ·simp at h
  ·split at h
   ·rename_i he
    simp only[Option.some.injEq]at h;subst h
    exact iT (by rw[Nat.blt_eq]at he;exact he)
   ·simp at h
 |.nil,v,x,h=>by
  cases v<;>simp only[cT,Option.some.injEq,reduceCtorEq]at h
  ·split at h
   ·simp only[Option.some.injEq]at h;subst h;exact .refl _
   ·simp at h
  ·subst h;exact .refl _
 |.agg l,v,x,h=>by
  cases v<;>simp only[cT,reduceCtorEq]at h
  split at h
  ·rename_i hl
   simp only[Option.some.injEq]at h;subst h;exact dJ (yT hl)
  ·simp at h
 |.mag _,v,x,h=>by simp[cT]at h
 |.cE _ _ _ _,v,x,h=>by simp[cT]at h
 |.void,v,x,h=>by simp[cT]at h
 |.str _,v,x,h=>by simp[cT]at h
 |.bO _,v,x,h=>by simp[cT]at h
 |.ptr _ _ _ _ _,v,x,h=>by simp[cT]at h
 |.own _ _ _ _,v,x,h=>by simp[cT]at h
 |.func _ _,v,x,h=>by simp[cT]at h
 |.tuple _,v,x,h=>by simp[cT]at h
 |.bn _ _,v,x,h=>by simp[cT]at h
theorem yT:∀{u v x:List AV},kP false u v=some x→dD v x
 |[],v,x,h=>by
  cases v<;>simp only[kP,Option.some.injEq,reduceCtorEq]at h
  subst h;trivial
 |a::l,v,x,h=>by
  cases v<;>simp only[kP,reduceCtorEq]at h
  split at h
  ·rename_i h1 h2
   simp only[Option.some.injEq]at h;subst h;exact⟨QZ h1,yT h2⟩
  ·simp at h
end
theorem dD.trans:∀{a b c:List AV},dD a b→dD b c→dD a c
 |[],[],[],_,_=>trivial
 |_::_,_::_,_::_,h,h'=>⟨h.1.trans h'.1,h.2.trans h'.2⟩
 |[],[],_::_,_,h=>h.elim
 |[],_::_,_,h,_=>h.elim
 |_::_,[],_,h,_=>h.elim
 |_::_,_::_,[],_,h=>h.elim
def kY:aa (List AV)→Option (List AV×List Prop)
 |.leaf _ us=>some (us,[])
 |.ag ps t=>match kY t with
  |some (us,qs)=>some (us,ps++qs)
  |none=>none
 |.fork b t u=>match kY t,kY u with
  |some (x,p),some (y,q)=>match kP b x y with
   |some z=>match p,q with
    |[],[]=>some (z,[])
    |p,q=>some (z,[b=true→az p,b=false→az q])
   |none=>none
  |_,_=>none
theorem vm:∀{t:aa (List AV)} {us:List AV} {ps:List Prop},kY t=some (us,ps)→az ps→t.all fun _ vs=>dD vs us
 |.leaf e vs,us,ps,h,_=>by
  simp only[kY,Option.some.injEq,Prod.mk.injEq]at h
  obtain⟨rfl,rfl⟩:=h
  exact .refl _
 |.ag l t,us,ps,h,hp=>by
  simp only[kY]at h
  split at h
  ·rename_i h1
   simp only[Option.some.injEq,Prod.mk.injEq]at h
   obtain⟨rfl,rfl⟩:=h
   obtain⟨p1,p2⟩:=dA.1 hp
   exact⟨p1,vm h1 p2⟩
  ·simp at h
 |.fork b t u,us,ps,h,hp=>by
  simp only[kY]at h
  split at h
  ·rename_i x p y q h1 h2
   split at h
   ·rename_i z hz
    have key:us=z∧(b=true→az p)∧(b=false→az q):=by
     split at h
     ·simp only[Option.some.injEq,Prod.mk.injEq]at h
      exact⟨h.1.symm,fun _=>trivial,fun _=>trivial⟩
     ·simp only[Option.some.injEq,Prod.mk.injEq]at h
      obtain⟨rfl,rfl⟩:=h
      exact⟨rfl,hp⟩
    obtain⟨rfl,p1,p2⟩:=key
    refine⟨fun hb=>?_,fun hb=>?_⟩
    ·subst hb
     exact aa.fB (fun _ vs hv=>hv.trans (zg hz)) (vm h1 (p1 rfl))
    ·subst hb
     exact aa.fB (fun _ vs hv=>hv.trans (yT hz)) (vm h2 (p2 rfl))
   ·simp at h
  ·simp at h
def AO (T:Types) (Γ:aT) (forks:List Nat) (fuel:Nat) (fn:Func):Spec:=bq fun args=>
 match Nat.ble args.length fn.ntmps with
 |true=>match bu T Γ forks fuel fn (au fn) ⟨aM 0 args,[],0⟩with
  |some t=>match kY t with
   |some (us,ps)=>match us with
    |[u]=>some ⟨u,[],ps⟩
    |us=>some ⟨.tuple us,[],ps⟩
   |none=>none
  |none=>none
 |false=>none
theorem Qy {us:List AV} {v:AV} (h:dD us [v]):dY us v:=by
 match us,h with
 |[u],h=>exact h.1
theorem Tu {us vs:List AV} (hv:∀u,vs≠[u]) (h:dD us vs):dY us (.tuple vs):=by
 match us,vs,h with
 |[],[],h=>exact h
 |[u],[v],h=>exact absurd rfl (hv v)
 |a::b::l,_::_::_,h=>exact h
 |[u],_::_::_,h=>exact absurd h.2 (by simp[dD])
 |a::b::l,[v],h=>exact absurd h.2 (by simp[dD])
 |[],_::_,h=>exact h.elim
 |_::_,[],h=>exact h.elim
theorem Ev {P:Program} {T:Types} (hT:dw P T) {Γ:aT} (hΓ:bp P Γ) (hm:P.follows .mixedOrders=true) {f:FuncId} {fn:Func} (hf:aN P f fn (au fn)) (forks:List Nat) (fuel:Nat):
  ∀K args pre r,AO T Γ forks fuel fn K args pre=some r→aB P f K args pre r:=by
 refine bL fun K args r hk hs hp=>?_
 split at hs
 ·rename_i hlen
  have hlen:=Nat.le_of_ble_eq_true hlen
  split at hs
  ·rename_i t ht
   split at hs
   ·rename_i us ps hc
    split at hs
    ·simp only[Option.some.injEq]at hs
     subst hs
     exact bE (r:=⟨_,[],ps⟩) hT hΓ hm hf hk hlen rfl fuel ht (fun hn=>aa.fB (fun _ vs hv=>Qy hv) (vm hc hn)) K []
    ·rename_i hne
     simp only[Option.some.injEq]at hs
     subst hs
     exact bE (r:=⟨_,[],ps⟩) hT hΓ hm hf hk hlen rfl fuel ht (fun hn=>aa.fB (fun _ vs hv=>Tu hne hv) (vm hc hn)) K []
   ·simp at hs
  ·simp at hs
 ·simp at hs
theorem xI {P:Program} {Γ:aT} (h:bp P Γ):bp P (sG::Γ):=aK (fun K args pre r hs=>by simp at hs) h
theorem dN {P:Program} {Γ:aT} (h:bp P Γ):bp P (nG::Γ):=aK (fun K args pre r hs=>by simp at hs) h
end Go.Am

/- Loops whose objects get other keys in each round: states up to the names of objects. -/
namespace Go.Am
open AV
def jy (rl:List (Nat×Nat)):AV→AV
 |.ptr k i e o p=>match look k rl with
  |some j=>.ptr j i e o p
  |none=>.void
 |.own k e s n=>match look k rl with
  |some j=>.own j e s n
  |none=>match s,n,e with
   |0,0,_+1=>.nil
   |_,_,_=>.void
 |.bn c (.own k e s n)=>match look k rl with
  |some j=>.bn c (.own j e s n)
  |none=>.void
 |v=>v
def jk (rl:List (Nat×Nat)):AV→Bool
 |.ptr k _ _ _ _=>(look k rl).isSome
 |.own k e s n=>(look k rl).isSome||match s,n,e with
  |0,0,_+1=>true
  |_,_,_=>false
 |.tuple _=>false
 |.bn _ (.own k _ _ _)=>(look k rl).isSome
 |v=>(keys v).isEmpty
theorem Q5 {ρ:Nat→Option Nat} {c c2:Nat} {u v:AV} (hc:c=c2) (hv:v.isAgg=false) (h:fz ρ u v):fz ρ (.bn c u) (.bn c2 v):=by
 subst hc
 refine⟨rfl,fun M w β cs hcs=>?_⟩
 cases hcs with
 |bn _ h1 h2=>cases h2;exact .bn hv (h.2 _ _ _ _ h1) .nil
theorem EG {rl:List (Nat×Nat)} {u v:AV} (hu:u=jy rl v) (hv:jk rl v=true):u.isTuple=false∧fz (bf rl) u v:=by
 subst hu
 cases v with
 |ptr k i e o p=>
  simp only[jk,Option.isSome_iff_exists]at hv
  obtain⟨j,hj⟩:=hv
  simp only[jy,hj]
  exact⟨rfl,m7 hj⟩
 |own k e s n=>
  simp only[jk]at hv
  cases hj:look k rl with
  |some j=>
   simp only[jy,hj]
   exact⟨rfl,ct hj rfl rfl⟩
  |none=>
   rw[hj]at hv
   simp only[Option.isSome_none,Bool.false_or]at hv
   split at hv
   ·simp only[jy,hj]
    exact⟨rfl,sy (by omega)⟩
   ·simp at hv
 |tuple l=>simp[jk]at hv
 |bn c v=>
  cases v with
  |own k e s n=>
   simp only[jk,Option.isSome_iff_exists]at hv
   obtain⟨j,hj⟩:=hv
   simp only[jy,hj]
   exact⟨rfl,Q5 rfl rfl (ct hj rfl rfl)⟩
  |_=>
   simp only[jk,List.isEmpty_iff]at hv
   exact⟨rfl,aF hv⟩
 |_=>
  simp only[jk,List.isEmpty_iff]at hv
  exact⟨rfl,aF hv⟩
theorem DZ {rl:List (Nat×Nat)}:∀{vs us:List AV},us=vs.map (jy rl)→vs.all (jk rl)=true→eE (bf rl) us vs
 |[],_,h,_=>by subst h;trivial
 |v::vs,_,h,hv=>by
  subst h
  simp only[List.all_cons,Bool.and_eq_true]at hv
  exact⟨EG rfl hv.1,DZ rfl hv.2⟩
def nH:AV→Bool
 |.tuple _=>false
 |v=>(keys v).isEmpty
theorem Se {rl:List (Nat×Nat)} {v:AV} (h:nH v=true):jy rl v=v:=by
 cases v with
 |bn c v=>cases v<;>first|rfl|simp[nH,keys]at h
 |_=>first|rfl|simp[nH,keys]at h
theorem Ma {rl:List (Nat×Nat)} {v:AV} (h:nH v=true):jk rl v=true:=by
 cases v with
 |bn c v=>cases v<;>first|exact h|simp[nH,keys]at h
 |_=>first|exact h|simp[nH,keys]at h
end Go.Am

/- Functions with one loop, by what the evaluator says of its parts. -/
namespace Go.Am
open AV
def fP (rl:List (Nat×Nat)) (u v:AV):Prop:=((jk rl v=true∧u=jy rl v)∨∃us vs,u=.agg us∧v=.agg vs∧eE (bf rl) us vs)∨(keys u=[]∧bt u v)
theorem C6 {ρ:Nat→Option Nat} {M:Nat→Prop} {w:World} {β:aL}:∀{us vs:List AV} {cs:List Value},eE ρ us vs→aH M w β us cs→aH M w (fun k=>(ρ k).bind β) vs cs
 |[],[],_,_,h=>by cases h;exact .nil
 |u::us,v::vs,cs,hl,h=>by
  obtain⟨c1,c2,rfl,h1,h2⟩:=h.split
  exact(hl.1.2.2 M w β c1 h1).cons (C6 hl.2 h2)
 |[],_::_,_,h,_=>h.elim
 |_::_,[],_,h,_=>h.elim
theorem Vh {ρ:Nat→Option Nat} {us vs:List AV} (h:eE ρ us vs):fz ρ (.agg us) (.agg vs):=by
 refine⟨rfl,fun M w β cs hc=>?_⟩
 cases hc with
 |agg h1 h2=>cases h2;exact .agg (C6 h h1) .nil
theorem pD {rl:List (Nat×Nat)} {us vs:List AV} (h:eE (bf rl) us vs):fP rl (.agg us) (.agg vs):=.inl (.inr ⟨_,_,rfl,rfl,h⟩)
theorem fP.le {rl:List (Nat×Nat)} {u v:AV} (h:fP rl u v):fz (bf rl) u v:=by
 rcases h with(h|⟨us,vs,rfl,rfl,h⟩)|h
 ·exact(EG h.2 h.1).2
 ·exact Vh h
 ·exact jD h.1 h.2
def jS (nx:Nat) (rl:List (Nat×Nat)) (os:aA):aA→Prop
 |[]=>True
 |(k2,o2)::ps=>((look k2 rl=none∧qk o2∧k2<nx)∨∃k1 o1,look k2 rl=some k1∧look k1 os=some o1∧o1.row=o2.row∧o1.wr=o2.wr∧o1.es=o2.es∧o1.len=o2.len∧∀i,i<o2.len→fP rl (o1.f i) (o2.f i))∧jS nx rl os ps
theorem zu {nx:Nat} {rl:List (Nat×Nat)} {os:aA}:∀{ps:aA},jS nx rl os ps→tH nx (bf rl) os ps
 |[],_=>trivial
 |(k2,o2)::ps,h=>by
  obtain⟨h|⟨k1,o1,h1,h2,h3,h4,h5,h6,h7⟩,h8⟩:=h
  ·exact⟨.inr h,zu h8⟩
  ·exact⟨.inl ⟨k1,o1,h1,h2,⟨h3.symm▸rfl,h4.symm▸rfl,h5.symm▸rfl,h6.symm▸rfl,fun i hi=>(h7 i (h6▸hi)).le⟩⟩,zu h8⟩
theorem aP {rl:List (Nat×Nat)} {u v:AV} (hk:keys u=[]) (h:u=v):fP rl u v:=.inr ⟨hk,h▸.refl _⟩
theorem bF {nx:Nat} {rl:List (Nat×Nat)} {os ps:aA} {k2 k1:Nat} {r w:Bool} {es n m:Nat} {f g:Nat→AV} (hk:look k2 rl=some k1) (ho:look k1 os=some ⟨r,w,es,n,f⟩) (hn:n=m) (h:∀i,i<m→fP rl (f i) (g i))
  (hs:jS nx rl os ps):jS nx rl os ((k2,⟨r,w,es,m,g⟩)::ps):=⟨.inr ⟨k1,_,hk,ho,rfl,rfl,rfl,hn,h⟩,hs⟩
theorem bk {nx:Nat} {rl:List (Nat×Nat)} {os ps:aA} {k2 k1:Nat} {r w:Bool} {es:Nat} {f g:Nat→AV} (hk:look k2 rl=some k1) (ho:look k1 os=some ⟨r,w,es,1,f⟩) (h:fP rl (f 0) (g 0))
  (hs:jS nx rl os ps):jS nx rl os ((k2,⟨r,w,es,1,g⟩)::ps):=bF hk ho rfl (fun i hi=>by rw[Nat.lt_one_iff.1 hi];exact h) hs
theorem wK {nx:Nat} {rl:List (Nat×Nat)} {os ps:aA} {k2 es:Nat} {w:Bool} {f:Nat→AV} (hk:look k2 rl=none) (hes:0<es) (hn:k2<nx) (hs:jS nx rl os ps):jS nx rl os ((k2,⟨true,w,es,0,f⟩)::ps):=⟨.inl ⟨hk,⟨rfl,rfl,hes⟩,hn⟩,hs⟩
theorem BR {α:Type} {k:Nat} {a:α} {l:List (Nat×α)}:look k ((k,a)::l)=some a:=by simp[look]
def Kept (kp:List Nat) (c:Ctx):Prop:=∀k x,c.k0 k=some x→k∈kp
theorem um {c:Ctx} (h0:∀nx k x,c.k0 k=some x→k<nx):Kept [] c:=fun k x hk=>absurd (h0 0 k x hk) (by omega)
def eu (kp:List Nat) (v:List AV×aA) (vs:List AV) (os:aA) (nx:Nat):Prop:=
 ∃rl,(ia nx rl&&kp.all fun k=>look k rl==some k)=true∧v.1=vs.map (jy rl)∧vs.all (jk rl)=true∧jS nx rl v.2 os
theorem eu.le {kp:List Nat} {c:Ctx} {s':aE} {ls:List Nat} {v:List AV×aA} {vs:List AV} {os:aA} {nx:Nat} (h:eu kp v vs os nx) (hv:aR ls s'=some v) (h0:Kept kp c):∃ρ,Le c ρ s' ⟨aD ls vs,os,nx⟩:=by
 obtain⟨rl,h1,h2,h3,h4⟩:=h
 simp only[Bool.and_eq_true]at h1
 exact Dn rl hv (fun k x hk=>by simpa using List.all_eq_true.1 h1.2 k (h0 k x hk)) h1.1 (DZ h2 h3) (zu h4)
theorem eu.vals {vs:List AV} {nx:Nat} (h:vs.all nH=true):eu [] (vs,[]) vs [] nx:=by
 simp only[List.all_eq_true]at h
 refine⟨[],rfl,?_,List.all_eq_true.2 fun v hv=>Ma (h v hv),trivial⟩
 have:vs.map (jy [])=vs.map id:=List.map_congr_left fun v hv=>Se (h v hv)
 rw[this,List.map_id]
theorem nT {nt:Nat}:∀{x:Code} {p:List Nat},bX nt x=true→(before x p).all (fun x=>bX nt x)=true
 |.seq x y,0::p,h=>by
  simp only[bX,Bool.and_eq_true]at h
  exact nT (x:=x) h.1
 |.seq x y,(n+1)::p,h=>by
  simp only[bX,Bool.and_eq_true]at h
  simp only[before,List.all_cons,Bool.and_eq_true]
  exact⟨h.1,nT (x:=y) h.2⟩
 |.seq _ _,[],_|.cond _ _ _,_,_|.block _ _,_,_|.loop _,_,_|.region _ _ _,_,_|.skip,_,_|.label _,_,_|.exit _,_,_|.ret,_,_|.scope _,_,_|.goto _,_,_|.refuse _,_,_|.rangeFunc _ _ _ _,_,_=>by simp[before]
theorem zH {nt:Nat}:∀{x:Code} {p:List Nat},bX nt x=true→(behind x p).all (fun x=>bX nt x)=true
 |.seq x y,0::p,h=>by
  simp only[bX,Bool.and_eq_true]at h
  simp only[behind,List.all_append,List.all_cons,List.all_nil,Bool.and_true,Bool.and_eq_true]
  exact⟨zH (x:=x) h.1,h.2⟩
 |.seq x y,(n+1)::p,h=>by
  simp only[bX,Bool.and_eq_true]at h
  exact zH (x:=y) (p:=p) h.2
 |.seq _ _,[],_|.cond _ _ _,_,_|.block _ _,_,_|.loop _,_,_|.region _ _ _,_,_|.skip,_,_|.label _,_,_|.exit _,_,_|.ret,_,_|.scope _,_,_|.goto _,_,_|.refuse _,_,_|.rangeFunc _ _ _ _,_,_=>by simp[behind]
theorem Bs {nt:Nat}:∀{x:Code} {p:List Nat},chain x p=true→bX nt x=true→bX nt (part x p)=true
 |x,[],_,h=>by cases x<;>exact h
 |.seq x y,0::p,hc,h=>by
  simp only[bX,Bool.and_eq_true]at h
  exact Bs (x:=x) hc h.1
 |.seq x y,(n+1)::p,hc,h=>by
  simp only[bX,Bool.and_eq_true]at h
  exact Bs (x:=y) hc h.2
 |.cond _ _ _,_::_,hc,_|.block _ _,_::_,hc,_|.loop _,_::_,hc,_|.region _ _ _,_::_,hc,_|.skip,_::_,hc,_|.label _,_::_,hc,_|.exit _,_::_,hc,_|.ret,_::_,hc,_|.scope _,_::_,hc,_|.goto _,_::_,hc,_|.refuse _,_::_,hc,_|.rangeFunc _ _ _ _,_::_,hc,_=>by simp[chain]at hc
section rules
variable {P:Program} {c:Ctx} {nt:Nat} {s:aE} {Q:ah→aE→Prop} {T:Types} (hT:dw P T) {Γ:aT} (hΓ:bp P Γ) (hm:P.follows .mixedOrders=true)
def Round (kp:List Nat) {α:Type} (V:α→List AV) (O:α→aA) (nx:Nat) (I D:α→Prop) (μ:α→Nat) (i:Nat) (R:List AV×aA→Prop) (a:α):ah→List AV×aA→Prop
 |.normal,v=>∃b,I b∧μ b<μ a∧eu kp v (V b) (O b) nx
 |.exit k,v=>k=i∧∃b,D b∧eu kp v (V b) (O b) nx
 |.ret,v=>R v
include hT hΓ hm in
theorem aj.Oe {x y:Code} {i:Nat} (hx:x=.block i (.loop y)) {kp:List Nat} (h0:Kept kp c) {forks:List Nat} (n:Nat) (L:List Nat) (nx:Nat) {α:Type} (V:α→List AV) (O:α→aA) (I D:α→Prop) (μ:α→Nat) (R:List AV×aA→Prop)
  (a0:α) (hI:I a0) (hs:∃ρ,Le c ρ s ⟨aD L (V a0),O a0,nx⟩) (hd:bX nt y=true)
  (hb:∀a,I a→∃t,aJ T Γ forks n L [y] ⟨aD L (V a),O a,nx⟩=some t∧t.all (Round kp V O nx I D μ i R a))
  (hD:∀b s',D b→(∃ρ,Le c ρ s' ⟨aD L (V b),O b,nx⟩)→Q .normal s') (hR:∀v s',R v→aR L s'=some v→Q .ret s'):aj P c nt x s Q:=by
 refine aj.fU hx (fun a=>⟨aD L (V a),O a,nx⟩) I μ a0 hs hI fun a ha=>?_
 obtain⟨t,h1,h2⟩:=hb a ha
 refine aj.aV hT hΓ hm n L h1 hd (aa.fB ?_ h2)
 rintro e v hv s' hs'
 cases e with
 |normal=>
  obtain⟨b,g1,g2,g3⟩:=hv
  exact⟨b,g3.le hs' h0,g1,g2⟩
 |exit k=>
  obtain⟨rfl,b,g1,g2⟩:=hv
  exact AF (hD b s' g1 (g2.le hs' h0))
 |ret=>exact hR v s' hv hs'
theorem aC.one {x:Code} (h:aj P c nt x s Q):aC P c nt [x] s Q:=h.mono fun e s' h=>by cases e<;>exact h
theorem aj.p6 {x:Code} (h:aC P c nt [x] s Q):aj P c nt x s Q:=aj.mono h fun e s' h=>by cases e<;>exact h
def Start (kp:List Nat) {α:Type} (V:α→List AV) (O:α→aA) (nx:Nat) (I:α→Prop) (R:List AV×aA→Prop):ah→List AV×aA→Prop
 |.normal,v=>∃a,I a∧eu kp v (V a) (O a) nx
 |.ret,v=>R v
 |.exit _,_=>False
include hT hΓ hm in
theorem aj.xO {x y:Code} (p:List Nat) {i:Nat} (hc:chain x p=true) (hx:part x p=.block i (.loop y)) (hd:bX nt x=true) {kp:List Nat} (h0:Kept kp c) {f1 f2:List Nat} (n:Nat) (L:List Nat) (nx:Nat) {α:Type} (V:α→List AV) (O:α→aA) (I D:α→Prop) (μ:α→Nat) (R:List AV×aA→Prop)
  (hp:∃t,aJ T Γ f1 n L (before x p) s=some t∧t.all (Start kp V O nx I R))
  (hb:∀a,I a→∃t,aJ T Γ f2 n L [y] ⟨aD L (V a),O a,nx⟩=some t∧t.all (Round kp V O nx I D μ i R a))
  (hD:∀b s',D b→(∃ρ,Le c ρ s' ⟨aD L (V b),O b,nx⟩)→aC P c nt (behind x p) s' Q) (hR:∀v s',R v→aR L s'=some v→Q .ret s'):aj P c nt x s Q:=by
 obtain⟨t,h1,h2⟩:=hp
 refine aj.hole p hc (aC.aV hT hΓ hm n L h1 (nT hd) (aa.fB ?_ h2))
 rintro e v hv s' hs'
 cases e with
 |normal=>
  obtain⟨a,hI,hre⟩:=hv
  refine(show aj P c nt (part x p) s' _ from aj.Oe hT hΓ hm hx h0 n L nx V O I D μ R a hI (hre.le hs' h0) ?_ hb (fun b s' hD' hle=>hD b s' hD' hle) fun v s' hv hs'=>hR v s' hv hs')
  have:=Bs (nt:=nt) hc hd
  rw[hx]at this
  exact this
 |ret=>exact hR v s' hv hs'
 |exit k=>exact hv.elim
include hT hΓ hm in
theorem aj.rj {x y z:Code} (p:List Nat) {i:Nat} (hc:chain x p=true) (hx:part x p=.block i (.loop y)) (hz:behind x p=[z]) (hd:bX nt x=true) {kp:List Nat} (h0:Kept kp c) {f1 f2:List Nat} (n:Nat) (L:List Nat) (nx:Nat) {α:Type} (V:α→List AV) (O:α→aA) (I D:α→Prop) (μ:α→Nat) (R:List AV×aA→Prop)
  (hp:∃t,aJ T Γ f1 n L (before x p) s=some t∧t.all (Start kp V O nx I R))
  (hb:∀a,I a→∃t,aJ T Γ f2 n L [y] ⟨aD L (V a),O a,nx⟩=some t∧t.all (Round kp V O nx I D μ i R a))
  (hD:∀b,D b→aj P c nt z ⟨aD L (V b),O b,nx⟩ Q) (hR:∀v s',R v→aR L s'=some v→Q .ret s'):aj P c nt x s Q:=
 aj.xO hT hΓ hm p hc hx hd h0 n L nx V O I D μ R hp hb (fun b s' hD' hle=>by rw[hz];exact aC.weak rfl hle (aC.one (hD b hD'))) hR
def F9 (c:Ctx) (L:List Nat) {α:Type} (V:α→List AV) (O:α→aA) (nx:Nat) (I D:α→Prop) (μ:α→Nat) (i:Nat) (R:aE→Prop) (a:α):ah→aE→Prop
 |.normal,s'=>∃b,I b∧μ b<μ a∧∃ρ,Le c ρ s' ⟨aD L (V b),O b,nx⟩
 |.exit k,s'=>k=i∧∃b,D b∧∃ρ,Le c ρ s' ⟨aD L (V b),O b,nx⟩
 |.ret,s'=>R s'
include hT hΓ hm in
theorem aj.xR {x y z:Code} (p:List Nat) {i:Nat} (hc:chain x p=true) (hx:part x p=.block i (.loop y)) (hz:behind x p=[z]) (hd:bX nt x=true) {kp:List Nat} (h0:Kept kp c) {f1:List Nat} (n:Nat) (L:List Nat) (nx:Nat) {α:Type} (V:α→List AV) (O:α→aA) (I D:α→Prop) (μ:α→Nat) (R:List AV×aA→Prop)
  (hp:∃t,aJ T Γ f1 n L (before x p) s=some t∧t.all (Start kp V O nx I R))
  (hb:∀a,I a→aj P c nt y ⟨aD L (V a),O a,nx⟩ (F9 c L V O nx I D μ i (fun s'=>∃v,R v∧aR L s'=some v) a))
  (hD:∀b,D b→aj P c nt z ⟨aD L (V b),O b,nx⟩ Q) (hR:∀v s',R v→aR L s'=some v→Q .ret s'):aj P c nt x s Q:=by
 obtain⟨t,h1,h2⟩:=hp
 refine aj.hole p hc (aC.aV hT hΓ hm n L h1 (nT hd) (aa.fB ?_ h2))
 rintro e v hv s' hs'
 cases e with
 |normal=>
  obtain⟨a,hI,hre⟩:=hv
  refine aj.fU hx (fun a=>⟨aD L (V a),O a,nx⟩) I μ a (hre.le hs' h0) hI fun a ha=>(hb a ha).mono fun e s' h=>?_
  cases e with
  |normal=>
   obtain⟨b,g1,g2,g3⟩:=h
   exact⟨b,g3,g1,g2⟩
  |exit k=>
   obtain⟨rfl,b,g1,g2⟩:=h
   refine AF ?_
   show aC P c nt (behind x p) s' _
   rw[hz]
   exact aC.weak rfl g2 (aC.one (hD b g1))
  |ret=>
   obtain⟨v,g1,g2⟩:=h
   exact hR v s' g1 g2
 |ret=>exact hR v s' hv hs'
 |exit k=>exact hv.elim
include hT hΓ hm in
theorem aj.vC {y x1 zb:Code} (p:List Nat) {j:Nat} (hc:chain y p=true) (hx:part y p=.block j x1) (hz:behind y p=[zb]) (hd:bX nt y=true) {kp:List Nat} (h0:Kept kp c) {f1:List Nat} (n:Nat) (L:List Nat) (nx:Nat) {α:Type} (V:α→List AV) (O:α→aA) (I:α→Prop)
  (hp:∃t,aJ T Γ f1 n L (before y p) s=some t∧t.all fun e v=>match e with
   |.normal=>∃a,I a∧eu kp v (V a) (O a) nx
   |e=>∀s',aR L s'=some v→Q e s')
  (hb:∀a,I a→aj P c nt x1 ⟨aD L (V a),O a,nx⟩ (inBlock j (cK (fun s'=>aj P c nt zb s' Q) Q))):aj P c nt y s Q:=by
 obtain⟨t,h1,h2⟩:=hp
 refine aj.hole p hc (aC.aV hT hΓ hm n L h1 (nT hd) (aa.fB ?_ h2))
 rintro e v hv s' hs'
 cases e with
 |normal=>
  obtain⟨a,hI,hre⟩:=hv
  refine aj.jd (hre.le hs' h0) (aj.mq hx ((hb a hI).mono fun e s' h=>?_))
  have key:∀{e s'},cK (fun s'=>aj P c nt zb s' Q) Q e s'→cK (fun s''=>aC P c nt (behind y p) s'' Q) Q e s':=fun {e s'} h=>by
   cases e with
   |normal=>show aC P c nt (behind y p) s' Q;rw[hz];exact aC.one h
   |exit k=>exact h
   |ret=>exact h
  cases e with
  |normal=>exact key (e:=.normal) h
  |exit k=>
   simp only[inBlock]at h ⊢
   split
   ·rename_i hk;rw[if_pos hk]at h;exact key (e:=.normal) h
   ·rename_i hk;rw[if_neg hk]at h;exact key (e:=.exit k) h
  |ret=>exact key (e:=.ret) h
 |ret=>exact hv s' hs'
 |exit k=>exact hv s' hs'
theorem aj.tail {z zb:Code} {j:Nat} (hne:∀s',Q (.exit j) s'→False) (h:aC P c nt [z,zb] s Q):aj P c nt z s (inBlock j (cK (fun s'=>aj P c nt zb s' Q) Q)):=
 aj.mono h fun e s' h=>by
  cases e with
  |normal=>exact aj.mono h fun e s' h=>by cases e<;>exact h
  |exit k=>
   simp only[inBlock]
   split
   ·rename_i hk;subst hk;exact(hne _ h).elim
   ·exact h
  |ret=>exact h
def lD (fn:Func) (L:List Nat) (res:AV) (v:List AV×aA):Prop:=∃us,BX fn (aD L v.1)=some us∧dY us res
theorem lD.fin {fn:Func} {L:List Nat} {res:AV} {v:List AV×aA} {s':aE} (h:lD fn L res v) (hs':aR L s'=some v):cR c (Fin T fn res) .ret s':=by
 obtain⟨us,g1,g2⟩:=h
 exact .inl (eH (.inr rfl) hs' g1 g2)
theorem Ab {c:Prop} [Decidable c] {u v:AV} (hu:keys u=[]) (hv:keys v=[]):keys (if c then u else v)=[]:=by split<;>assumption
def Bh (T:Types) (fn:Func) (L:List Nat) (res:AV) (v:List AV×aA):Prop:=
 ∃vs us nx t,v.1=vs++us∧vs.length=L.length∧aU us=[]∧jr T fn .ret ⟨aD L vs,v.2,nx⟩=some t∧gy nx vs=true∧ff nx v.2∧t.all fun _ us=>dY us res
theorem Bh.fin {fn:Func} {L L1:List Nat} {res:AV} {v:List AV×aA} {s':aE} (h0:Kept [] c) (h:Bh T fn L res v) (hs':aR (L++L1) s'=some v):cR c (Fin T fn res) .ret s':=by
 obtain⟨vs,us,nx,t,h1,h2,h3,h4,h5,h6,h7⟩:=h
 obtain⟨v1,v2⟩:=v
 simp only at h1
 subst h1
 exact uN h4 (fS hs' h2 h3) (fun k x hk=>by simpa using h0 k x hk) h5 h6 h7
include hT hΓ hm in
theorem gJ {f:FuncId} {fn:Func} (hf:aN P f fn (au fn)) {args:List AV} {r:cr} (hk:aU args=[]) (hlen:args.length≤fn.ntmps) (hpost:r.post=[]) (p:List Nat) {i:Nat} {y z:Code} (hc:chain (au fn) p=true) (hx:part (au fn) p=.block i (.loop y)) (hz:behind (au fn) p=[z])
  {f1 f2 f3:List Nat} (n:Nat) (L:List Nat) (nx:Nat) {α:Type} (V:α→List AV) (O:α→aA) (I D:α→Prop) (μ:α→Nat)
  (h:r.need→(∃t,aJ T Γ f1 n L (before (au fn) p) ⟨aM 0 args,[],0⟩=some t∧t.all (Start [] V O nx I (lD fn L r.res)))∧
   (∀a,I a→∃t,aJ T Γ f2 n L [y] ⟨aD L (V a),O a,nx⟩=some t∧t.all (Round [] V O nx I D μ i (lD fn L r.res) a))∧
   ∀a,D a→∃t,b7 T Γ f3 n fn [z] ⟨aD L (V a),O a,nx⟩=some t∧t.all fun _ us=>dY us r.res) (K:Nat) (pre:aA):aB P f K args pre r:=by
 refine fZ hT hf hk hlen hpost (fun need c h0=>?_) K pre
 obtain⟨hp,hb,he⟩:=h need
 refine aj.rj hT hΓ hm p hc hx hz hf.dst (um h0) n L nx V O I D μ (lD fn L r.res) hp hb (fun a ha=>?_) fun v s' hv hs'=>hv.fin hs'
 obtain⟨t,g1,g2⟩:=he a ha
 have:=zH (x:=au fn) (p:=p) hf.dst
 rw[hz]at this
 exact aj.p6 ((aC.fin hT hΓ hm n g1 this g2).mono fun _ _ h=>.inl h)
theorem FJ {rl:List (Nat×Nat)}:∀{rest:List AV},aU rest=[]→(rest.all fun v=>!v.isTuple)=true→eE (bf rl) rest rest
 |[],_,_=>trivial
 |v::r,h1,h2=>by
  simp only[aU,List.append_eq_nil_iff]at h1
  simp only[List.all_cons,Bool.and_eq_true,Bool.not_eq_true']at h2
  exact⟨⟨h2.1,aF h1.1⟩,FJ h1.2 h2.2⟩
end rules
end Go.Am

/- Functions that are handed two lists that may still be written to, and leave them as they are. -/
namespace Go.Am
open AV
theorem AT {ρ:Nat→Option Nat}:∀{us vs:List AV},aU us=[]→(us.all fun v=>!v.isTuple)=true→dD us vs→eE ρ us vs
 |[],[],_,_,_=>trivial
 |u::us,v::vs,h1,h2,h=>by
  simp only[aU,List.append_eq_nil_iff]at h1
  simp only[List.all_cons,Bool.and_eq_true,Bool.not_eq_true']at h2
  exact⟨⟨h2.1,jD h1.1 h.1⟩,AT h1.2 h2.2 h.2⟩
 |[],_::_,_,_,h=>h.elim
 |_::_,[],_,_,h=>h.elim
def yX (T:Types) (fn:Func) (e:ah) (s:aE):Option (aa (List AV×Option ak×Option ak)):=match e with
 |.exit _=>none
 |e=>match eG T s fn.results.toList with
  |some (vs,q)=>some (.need q (.leaf e (vs,look 0 s.store,look 1 s.store)))
  |none=>none
def Hp (us:List AV) (o p:ak) (v:List AV×Option ak×Option ak):Prop:=
 aU v.1=[]∧(v.1.all fun v=>!v.isTuple)=true∧dD v.1 us∧(∃o1,v.2.1=some o1∧∀ρ,dG ρ o1 o)∧∃p1,v.2.2=some p1∧∀ρ,dG ρ p1 p
def GF (T:Types) (fn:Func) (us:List AV) (o p:ak) (e:ah) (s:aE):Prop:=
 (e=.normal∨e=.ret)∧(∃vs q,eG T s fn.results.toList=some (vs,q)∧az q∧aU vs=[]∧(vs.all fun v=>!v.isTuple)=true∧dD vs us)∧(∃o1,look 0 s.store=some o1∧∀ρ,dG ρ o1 o)∧∃p1,look 1 s.store=some p1∧∀ρ,dG ρ p1 p
theorem TX {T:Types} {fn:Func} {e:ah} {s:aE} {t:aa (List AV×Option ak×Option ak)} {us:List AV} {o p:ak} (h1:yX T fn e s=some t) (h2:t.all fun _ v=>Hp us o p v):GF T fn us o p e s:=by
 unfold yX at h1
 have key:∀{e':ah},(match eG T s fn.results.toList with
   |some (vs,q)=>some (aa.need q (.leaf e' (vs,look 0 s.store,look 1 s.store)))
   |none=>none)=some t→(∃vs q,eG T s fn.results.toList=some (vs,q)∧az q∧aU vs=[]∧(vs.all fun v=>!v.isTuple)=true∧dD vs us)∧(∃o1,look 0 s.store=some o1∧∀ρ,dG ρ o1 o)∧∃p1,look 1 s.store=some p1∧∀ρ,dG ρ p1 p:=by
  intro e' h1
  cases hr:eG T s fn.results.toList with
  |none=>rw[hr]at h1;simp at h1
  |some r=>
   obtain⟨vs,q⟩:=r
   rw[hr]at h1
   simp only[Option.some.injEq]at h1
   subst h1
   obtain⟨g1,g2,g3,g4,g5,g6⟩:=aa.vl.1 h2
   exact⟨⟨vs,q,rfl,g1,g2,g3,g4⟩,g5,g6⟩
 cases e with
 |normal=>exact⟨.inl rfl,key h1⟩
 |ret=>exact⟨.inr rfl,key h1⟩
 |exit i=>simp at h1
section rules
variable {P:Program} {c:Ctx} {nt:Nat} {s:aE} {Q:ah→aE→Prop} {T:Types} (hT:dw P T) {Γ:aT} (hΓ:bp P Γ) (hm:P.follows .mixedOrders=true)
def Cl (T:Types) (fn:Func) (L:List Nat) (us:List AV) (o p:ak) (v:List AV×aA):Prop:=
 ∃vs ws nx t,v.1=vs++ws∧vs.length=L.length∧aU ws=[]∧yX T fn .ret ⟨aD L vs,v.2,nx⟩=some t∧gy nx vs=true∧ff nx v.2∧2≤nx∧t.all fun _ v=>Hp us o p v
theorem Cl.fin {fn:Func} {L L1:List Nat} {us:List AV} {o p:ak} {v:List AV×aA} {s':aE} (h0:Kept [0,1] c) (h:Cl T fn L us o p v) (hs':aR (L++L1) s'=some v):cR c (GF T fn us o p) .ret s':=by
 obtain⟨vs,ws,nx,t,h1,h2,h3,h4,h5,h6,hn,h7⟩:=h
 obtain⟨v1,v2⟩:=v
 simp only at h1
 subst h1
 obtain⟨ρ,hle⟩:=jN (fS hs' h2 h3) (fun k x hk=>by
  have:=h0 k x hk
  simp only[List.mem_cons,List.not_mem_nil,or_false]at this
  omega) h5 h6
 exact .inr ⟨_,ρ,hle,TX h4 h7⟩
end rules
end Go.Am

/- Functions that are handed a list to write to, and give back a part of it. -/
namespace Go.Am
open AV
def B5 (fn:Func) (k:Nat) (ws:List AV) (o':ak) (e:ah) (s':aE):Prop:=
 (e=.normal∨e=.ret)∧∃ls vs us os o1,aR ls s'=some (vs,os)∧jg (aD ls vs) fn.results.toList=some us∧eE (bf [(k,0)]) us ws∧look 0 os=some o1∧dG (bf [(k,0)]) o1 o'
def yh (fn:Func) (k:Nat) (ws:List AV) (o':ak) (L:List Nat) (v:List AV×aA):Prop:=∃us o1,jg (aD L v.1) fn.results.toList=some us∧eE (bf [(k,0)]) us ws∧look 0 v.2=some o1∧dG (bf [(k,0)]) o1 o'
theorem yh.fin {fn:Func} {k:Nat} {ws:List AV} {o':ak} {L:List Nat} {v:List AV×aA} {s':aE} (h:yh fn k ws o' L v) (hs':aR L s'=some v):B5 fn k ws o' .ret s':=by
 obtain⟨us,o1,h1,h2,h3,h4⟩:=h
 exact⟨.inr rfl,L,v.1,us,v.2,o1,hs',h1,h2,h3,h4⟩
section rules
variable {P:Program} {c:Ctx} {nt:Nat} {s:aE} {Q:ah→aE→Prop} {T:Types} (hT:dw P T) {Γ:aT} (hΓ:bp P Γ) (hm:P.follows .mixedOrders=true)
include hT hΓ hm in
theorem aj.branch {x u v:Code} {b:Operand} (p:List Nat) (hc:chain x p=true) (hx:part x p=.cond b u v) (hz:behind x p=[]) (hd:bX nt x=true) {kp:List Nat} (h0:Kept kp c) {f1:List Nat} (n:Nat) (L:List Nat) (nx:Nat) {α:Type} (V:α→List AV) (O:α→aA) (I:α→Prop)
  (hp:∃t,aJ T Γ f1 n L (before x p) s=some t∧t.all fun e v=>match e with
   |.normal=>∃a,I a∧eu kp v (V a) (O a) nx
   |e=>∀s',aR L s'=some v→Q e s')
  (hb:∀a,I a→∃t,(⟨aD L (V a),O a,nx⟩:aE).eU b=some (.bool t)∧(t=true→aj P c nt u ⟨aD L (V a),O a,nx⟩ Q)∧(t=false→aj P c nt v ⟨aD L (V a),O a,nx⟩ Q)):aj P c nt x s Q:=by
 obtain⟨t,h1,h2⟩:=hp
 refine aj.hole p hc (aC.aV hT hΓ hm n L h1 (nT hd) (aa.fB ?_ h2))
 rintro e v hv s' hs'
 cases e with
 |normal=>
  obtain⟨a,hI,hre⟩:=hv
  obtain⟨t,g1,g2,g3⟩:=hb a hI
  show aj P c nt (part x p) s' _
  rw[hx,hz]
  have key:∀{y:Code} {s:aE},aj P c nt y s Q→aj P c nt y s (cK (fun s''=>aC P c nt [] s'' Q) Q):=fun h=>h.mono fun e s' h=>by cases e<;>exact h
  exact aj.jd (hre.le hs' h0) (aj.cond g1 (fun ht=>key (g2 ht)) fun ht=>key (g3 ht))
 |ret=>exact hv s' hs'
 |exit k=>exact hv s' hs'
include hT in
theorem X6 {f:FuncId} {fn:Func} {x:Code} (hf:aN P f fn x) {k es st n:Nat} {rest ws:List AV} {o2 o o':ak} {l:List Prop}
  (hkr:aU rest=[]) (hrt:(rest.all fun v=>!v.isTuple)=true) (hlen:rest.length+1≤fn.ntmps) (ho:∀ρ,dG ρ o2 o)
  (h:az l→∀c:Ctx,Kept [0] c→aj P c fn.ntmps x ⟨aM 0 (.own 0 es st n::rest),[(0,o)],1⟩ (B5 fn k ws o')) (K:Nat):
  aB P f K (.own k es st n::rest) [(k,o2)] ⟨iZ ws,[(k,o')],l⟩:=by
 refine qa hT hf (args0:=.own 0 es st n::rest) (pre0:=[(0,o)]) (nx:=1) [(0,k)] (by simpa using hlen) (by simp[ia]) ⟨⟨rfl,ct rfl rfl rfl⟩,FJ hkr hrt⟩ ⟨⟨k,o2,rfl,by simp[look],ho _⟩,trivial⟩
  (fun a x h=>?_) (fun x o h=>.inl ?_) (fun need c h0=>?_)
 ·simp only[bf,look]at h
  split at h
  ·simp only[Option.some.injEq]at h;subst h;exact⟨_,by simp[look];rfl⟩
  ·simp at h
 ·simp only[look]at h
  split at h
  ·rename_i he
   exact⟨_,by simp only[look,he,if_true];rfl⟩
  ·simp at h
 have hk:Kept [0] c:=fun a y hy=>by
  have:=h0 a y hy
  simp only[bf,look]at this
  split at this
  ·rename_i he;have:=eq_of_beq he;subst this;exact List.mem_singleton_self _
  ·simp at this
 refine(h need c hk).mono fun e s' ⟨h1,ls,vs,us,os,o1,g1,g2,g3,g4,g5⟩=>⟨h1,bf [(k,0)],wN,.inr (tF (ws:=ws) (ps:=[(k,o')]) g1 g2 g3 rfl (by simp[bT,ee,put]) ⟨⟨0,o1,by simp[bf,look],g4,g5⟩,trivial⟩)⟩
include hT in
theorem HR {f:FuncId} {fn:Func} {x:Code} (hf:aN P f fn x) {args args0 ws:List AV} {o':ak} {K:Nat} {l:List Prop} (ha:az l→eE (bf []) args args0) (hlen:args0.length≤fn.ntmps)
  (h:az l→∀c:Ctx,Kept [] c→aj P c fn.ntmps x ⟨aM 0 args0,[],0⟩ fun e s'=>(e=.normal∨e=.ret)∧∃ls vs us os a o,aR ls s'=some (vs,os)∧jg (aD ls vs) fn.results.toList=some us∧eE (bf [(K,a)]) us ws∧look a os=some o∧dG (bf [(K,a)]) o o'):
  aB P f K args [] ⟨iZ ws,[(K,o')],l⟩:=by
 intro need
 refine(qa hT hf (args0:=args0) (pre0:=[]) (nx:=0) [] hlen rfl (ha need) trivial (fun a k h=>by simp[bf,look]at h) (fun k o h=>?_) (fun need c h0=>?_):aB P f K args [] ⟨iZ ws,[(K,o')],l⟩) need
 ·simp only[look]at h
  split at h
  ·rename_i he
   have:K=k:=by simpa using he
   subst this
   exact .inr ⟨Nat.le_refl _,by unfold bW;omega⟩
  ·simp at h
 ·refine(h need c fun k x hk=>by simpa [bf,look]using h0 k x hk).mono ?_
  rintro e s' ⟨h1,ls,vs,us,os,a,o,h2,h3,h4,h5,h6⟩
  exact⟨h1,bf [(K,a)],HE ⟨Nat.le_refl _,by unfold bW;omega⟩,.inr (tF (ws:=ws) (ps:=[(K,o')]) h2 h3 h4 rfl rfl ⟨⟨a,o,by simp[bf,look],h5,h6⟩,trivial⟩)⟩
end rules
end Go.Am

/- A loop in a loop. -/
namespace Go.Am
open AV
section rules
variable {P:Program} {c:Ctx} {nt:Nat} {s:aE} {Q:ah→aE→Prop} {T:Types} (hT:dw P T) {Γ:aT} (hΓ:bp P Γ) (hm:P.follows .mixedOrders=true)
end rules
end Go.Am

/- Functions that are handed one list that may still be written to, and leave it as it is. -/
namespace Go.Am
open AV
def ue (T:Types) (fn:Func) (e:ah) (s:aE):Option (aa (List AV×Option ak)):=match e with
 |.exit _=>none
 |e=>match eG T s fn.results.toList with
  |some (vs,q)=>some (.need q (.leaf e (vs,look 0 s.store)))
  |none=>none
def B8 (T:Types) (Γ:aT) (forks:List Nat) (n:Nat) (fn:Func) (l:List Code) (s:aE):Option (aa (List AV×Option ak)):=
 match od T Γ forks n l s with
 |some t=>t.bind (ue T fn)
 |none=>none
def A0 (us:List AV) (o:ak) (v:List AV×Option ak):Prop:=
 aU v.1=[]∧(v.1.all fun v=>!v.isTuple)=true∧dD v.1 us∧∃o1,v.2=some o1∧∀ρ,dG ρ o1 o
def rz (T:Types) (fn:Func) (us:List AV) (o:ak) (e:ah) (s:aE):Prop:=
 (e=.normal∨e=.ret)∧(∃vs q,eG T s fn.results.toList=some (vs,q)∧az q∧aU vs=[]∧(vs.all fun v=>!v.isTuple)=true∧dD vs us)∧∃o1,look 0 s.store=some o1∧∀ρ,dG ρ o1 o
theorem FD {T:Types} {fn:Func} {e:ah} {s:aE} {t:aa (List AV×Option ak)} {us:List AV} {o:ak} (h1:ue T fn e s=some t) (h2:t.all fun _ v=>A0 us o v):rz T fn us o e s:=by
 unfold ue at h1
 have key:∀{e':ah},(match eG T s fn.results.toList with
   |some (vs,q)=>some (aa.need q (.leaf e' (vs,look 0 s.store)))
   |none=>none)=some t→(∃vs q,eG T s fn.results.toList=some (vs,q)∧az q∧aU vs=[]∧(vs.all fun v=>!v.isTuple)=true∧dD vs us)∧∃o1,look 0 s.store=some o1∧∀ρ,dG ρ o1 o:=by
  intro e' h1
  cases hr:eG T s fn.results.toList with
  |none=>rw[hr]at h1;simp at h1
  |some r=>
   obtain⟨vs,q⟩:=r
   rw[hr]at h1
   simp only[Option.some.injEq]at h1
   subst h1
   obtain⟨g1,g2,g3,g4,g5⟩:=aa.vl.1 h2
   exact⟨⟨vs,q,rfl,g1,g2,g3,g4⟩,g5⟩
 cases e with
 |normal=>exact⟨.inl rfl,key h1⟩
 |ret=>exact⟨.inr rfl,key h1⟩
 |exit i=>simp at h1
section rules
variable {P:Program} {c:Ctx} {nt:Nat} {s:aE} {Q:ah→aE→Prop} {T:Types} (hT:dw P T) {Γ:aT} (hΓ:bp P Γ) (hm:P.follows .mixedOrders=true)
include hT hΓ hm in
theorem aC.Ta {fn:Func} {forks:List Nat} (n:Nat) {l:List Code} {t:aa (List AV×Option ak)} (hc:B8 T Γ forks n fn l s=some t) (hd:(l.all fun x=>bX nt x)=true) {us:List AV} {o:ak}
  (h:t.all fun _ v=>A0 us o v):aC P c nt l s (rz T fn us o):=by
 unfold B8 at hc
 split at hc
 ·rename_i u hx
  refine yl hT hΓ hm hd hx (aa.fB ?_ (aa.jl hc h))
  rintro e s' ⟨v,h1,h2⟩
  exact FD h1 h2
 ·simp at hc
def yc (T:Types) (fn:Func) (L:List Nat) (us:List AV) (o:ak) (v:List AV×aA):Prop:=
 ∃vs ws nx t,v.1=vs++ws∧vs.length=L.length∧aU ws=[]∧ue T fn .ret ⟨aD L vs,v.2,nx⟩=some t∧gy nx vs=true∧ff nx v.2∧1≤nx∧t.all fun _ v=>A0 us o v
theorem yc.fin {fn:Func} {L L1:List Nat} {us:List AV} {o:ak} {v:List AV×aA} {s':aE} (h0:Kept [0] c) (h:yc T fn L us o v) (hs':aR (L++L1) s'=some v):cR c (rz T fn us o) .ret s':=by
 obtain⟨vs,ws,nx,t,h1,h2,h3,h4,h5,h6,hn,h7⟩:=h
 obtain⟨v1,v2⟩:=v
 simp only at h1
 subst h1
 obtain⟨ρ,hle⟩:=jN (fS hs' h2 h3) (fun k x hk=>by
  have:=h0 k x hk
  simp only[List.mem_cons,List.not_mem_nil,or_false]at this
  omega) h5 h6
 exact .inr ⟨_,ρ,hle,FD h4 h7⟩
include hT in
theorem KV {f:FuncId} {fn:Func} {x:Code} (hf:aN P f fn x) {args args0 us:List AV} {a:Nat} {oa oa0:ak} {l:List Prop} (hlen:args0.length≤fn.ntmps)
  (ha:eE (bf [(0,a)]) args args0) (hoa:az l→∀ρ,dG ρ oa oa0)
  (h:az l→∀c:Ctx,Kept [0] c→aj P c fn.ntmps x ⟨aM 0 args0,[(0,oa0)],1⟩ (cR c (rz T fn us oa0))) (K:Nat):aB P f K args [(a,oa)] ⟨iZ us,[(a,oa0)],l⟩:=by
 intro need
 refine(qa hT hf (args0:=args0) (pre0:=[(0,oa0)]) (nx:=1) [(0,a)] hlen (by simp[ia]) ha ⟨⟨a,oa,rfl,BR,hoa need _⟩,trivial⟩
  (fun x k h=>?_) (fun x o h=>.inl ?_) (fun need c h0=>?_):aB P f K args [(a,oa)] ⟨iZ us,[(a,oa0)],l⟩) need
 ·simp only[bf,look]at h
  split at h
  ·simp only[Option.some.injEq]at h;subst h;exact⟨_,BR⟩
  ·simp at h
 ·simp only[look]at h ⊢
  split at h
  ·rename_i he;exact⟨oa,by rw[if_pos he]⟩
  ·simp at h
 have hk:Kept [0] c:=fun x y hy=>by
  have:=h0 x y hy
  simp only[bf,look]at this
  split at this
  ·rename_i he;have:=eq_of_beq he;subst this;simp
  ·simp at this
 refine(h need c hk).down.mono ?_
 rintro e s' ⟨h1,⟨vs,q,g1,g2,g3,g4,g5⟩,o1,g6,g7⟩
 refine⟨h1,bf [(a,0)],wN,.inr ⟨⟨vs,q,us,g1,g2,AT g3 g4 g5,rfl⟩,fun k o hk=>?_⟩⟩
 have he:bT (ee [(a,oa0)]) [(a,oa)]=[(a,oa0)]:=by simp[bT,ee,put]
 rw[he]at hk
 simp only[look]at hk
 split at hk
 ·rename_i hx
  have:=eq_of_beq hx
  simp only[Option.some.injEq]at hk
  subst hk this
  exact⟨0,o1,by simp[bf,look],g6,g7 _⟩
 ·simp at hk
end rules
end Go.Am

/- The call of a law, from its contract: whatever the arguments. -/
namespace Go.Am
open Go Go.ChangeShapes Go.WideShapes Go.ChangeAt Go.RowKit AV
inductive PK where
 |list
 |int (k:IntKind)
 |bool
def El (P:Program):PK→TypeId→Prop
 |.list,t=>∃e,P.underlying t=some (.slice e)∧P.underlying e=some (.int .i64)∧P.cellsOf e=1
 |.int k,t=>P.underlying t=some (.int k)
 |.bool,t=>P.underlying t=some .bool
def uB (P:Program):List PK→List TypeId→Prop
 |[],[]=>True
 |k::ks,t::ts=>(El P k t∧P.readableRec t=true∧t<P.types.size)∧uB P ks ts
 |_,_=>False
def FK:PK→AV→Prop
 |.list,a=>∃(n:Nat) (z:Nat→Int),a=.aq 1 n (fun i=>.int .i64 (z i))
 |.int k,a=>∃n,a=.int k n
 |.bool,a=>∃b,a=.bool b
def zW:List PK→List AV→Prop
 |[],as=>as=[]
 |k::ks,as=>∃a l,as=a::l∧FK k a∧zW ks l
section
variable {P:Program} {H:Type} {enc:TypeId×Value→H} {W:World} {base:Nat}
theorem Jm {k:PK} {t:TypeId} {v:Value} {d:DataW H} {p:List MemPlace} (hk:El P k t) (h:DataW.Trod enc P W 0 (fun _=>true) true t v d p) (hv:Value.okWide P W .any base t v):∃a,FK k a∧aQ (fun _=>False) W aS a v:=by
 cases k with
 |int k=>
  obtain⟨n,rfl⟩:=okWide_int hk hv
  exact⟨_,⟨n,rfl⟩,.bJ (.int .nil) rfl⟩
 |bool=>
  obtain⟨b,rfl⟩:=okWide_bool hk hv
  exact⟨_,⟨b,rfl⟩,.bJ (.bool .nil) rfl⟩
 |list=>
  obtain⟨e,h1,h2,h3⟩:=hk
  obtain⟨a0,len,cap,rfl⟩:=okWide_slice h1 hv
  obtain⟨fuel,hf⟩:=h
  have key:∀{z:Nat→Int},len≤cap→(len=0∨∃b o,a0=some ⟨b,o,none⟩∧∀i,i<len→W.cell? ⟨b,o+i,none⟩=some (.int .i64 (z i)))→aQ (fun _=>False) W aS (.aq 1 len (fun i=>.int .i64 (z i))) (.slice a0 len cap):=fun {z} hcap hr=>by
   refine .bJ (.aq (cf:=fun i=>[.int .i64 (z i)]) ?_ (by omega) hcap (fun _ _=>rfl) (fun _ _=>.int .nil) .nil) rfl
   rcases hr with hr|⟨b,o,rfl,hr⟩
   ·exact .inl hr
   ·refine .inr ⟨b,o,rfl,fun i hi=>?_⟩
    have hc:=hr i hi
    simp only[World.cell?]at hc
    split at hc
    ·rename_i cs ty fr hh
     simp only[Option.isSome_none,Bool.false_eq_true,if_false]at hc
     refine⟨cs,ty,fr,hh,id,fun j v hj=>?_⟩
     have hj0:j=0:=by have:=(List.getElem?_eq_some_iff.1 hj).1;simp at this;exact this
     subst hj0
     simp only[List.getElem?_cons_zero,Option.some.injEq]at hj
     subst hj
     simpa using hc
    ·simp at hc
  rcases open_ints h1 h2 h3 hf with⟨hcs,hx⟩|⟨a,len',cap',zs,hcs,_,hl,hm,hz,hx,hcell,hwz⟩
  ·simp only[Value.cells,List.cons.injEq,Value.slice.injEq,and_true]at hcs
   obtain⟨rfl,rfl,rfl⟩:=hcs
   exact⟨_,⟨0,fun _=>0,rfl⟩,key (z:=fun _=>0) (Nat.le_refl _) (.inl rfl)⟩
  ·simp only[Value.cells,List.cons.injEq,Value.slice.injEq,and_true]at hcs
   obtain⟨rfl,rfl,rfl⟩:=hcs
   simp only[if_true]at hz
   refine⟨_,⟨len,fun i=>zs.getD i 0,rfl⟩,key hl ?_⟩
   rcases Nat.eq_zero_or_pos len with h0|h0
   ·exact .inl h0
   ·obtain⟨b,o,m⟩:=a
    have h1:=hcell 0 (by omega)
    have:m=none:=by
     cases m with
     |none=>rfl
     |some y=>exfalso;simp only[Addr.add,World.cell?]at h1;split at h1<;>simp at h1
    subst this
    exact .inr ⟨b,o,rfl,fun i hi=>by
     have h2:=hcell i (by omega)
     rcases Nat.eq_zero_or_pos i with hi|hi
     ·subst hi;simpa [Addr.add]using h2
     ·simpa [Addr.add,Nat.pos_iff_ne_zero.1 hi]using h2⟩
theorem FO:∀{ks:List PK} {ts:List TypeId} {vs:List Value} {ds:List (DataW H)} {p:List MemPlace},uB P ks ts→DataW.TrodAll enc P W 0 (fun _=>true) true ts vs ds p→(∀(j:Nat) t v,ts[j]?=some t→vs[j]?=some v→Value.okWide P W .any base t v)→
  ∃as,zW ks as∧bI (fun _=>False) W aS as vs
 |[],[],vs,ds,p,_,h,_=>by
  obtain⟨rfl,_,_⟩:=trodAll_nil h
  exact⟨[],rfl,trivial⟩
 |k::ks,t::ts,vs,ds,p,hk,h,hv=>by
  obtain⟨v,vs',d,ds',p1,q,rfl,rfl,rfl,hd,hrest⟩:=trodAll_cons h
  obtain⟨a,h1,h2⟩:=Jm hk.1.1 hd (hv 0 t v rfl rfl)
  obtain⟨as,h3,h4⟩:=FO hk.2 hrest fun j t v h1 h2=>hv (j+1) t v h1 h2
  exact⟨a::as,⟨a,as,rfl,h1,h3⟩,h2,h4⟩
 |[],_::_,_,_,_,h,_,_=>h.elim
 |_::_,[],_,_,_,h,_,_=>h.elim
theorem D3 {b:Nat} {sp:Nat→Bool} {held:Bool}:∀{ts:List TypeId} {vs:List Value} {ds:List (DataW H)} {p:List MemPlace},DataW.TrodAll enc P W b sp held ts vs ds p→ds.length=ts.length
 |[],vs,ds,p,h=>by
  obtain⟨_,rfl,_⟩:=trodAll_nil h
  rfl
 |t::ts,vs,ds,p,h=>by
  obtain⟨v,vs',d,ds',p1,q,rfl,rfl,rfl,hd,hrest⟩:=trodAll_cons h
  simp[D3 hrest]
theorem Iy (hl:laidOutB P=true) {W':World} (hb:Below W.heap.size W W'):∀{ks:List PK} {ts:List TypeId} {vs:List Value} {ds:List (DataW H)} {p:List MemPlace},uB P ks ts→DataW.TrodAll enc P W 0 (fun _=>true) true ts vs ds p→(∀x∈p,x.block<W.heap.size)→
  DataW.TrodAll enc P W' 0 (fun b=>decide (b<W.heap.size)) true ts vs ds p
 |[],[],vs,ds,p,_,h,_=>by
  obtain⟨rfl,rfl,rfl⟩:=trodAll_nil h
  exact trodAll_mk0
 |k::ks,t::ts,vs,ds,p,hk,h,hlt=>by
  obtain⟨v,vs',d,ds',p1,q,rfl,rfl,rfl,hd,hrest⟩:=trodAll_cons h
  exact⟨_,_,Below.trod hl hk.1.2.1 hk.1.2.2 hd hb fun x hx=>hlt x (List.mem_append_left _ hx),Iy hl hb hk.2 hrest fun x hx=>hlt x (List.mem_append_right _ hx),rfl⟩
 |[],_::_,_,_,_,h,_,_=>h.elim
 |_::_,[],_,_,_,h,_,_=>h.elim
theorem MZ (hl:laidOutB P=true) {f:FuncId} {fn:Func} (hf:P.funcs[f]?=some fn) (hb:fn.body.isNone=false) {ks:List PK} {ts:List TypeId} (hk:uB P ks ts) {args:Array Value} {ds:List (DataW H)} {p:List MemPlace}
  (hA:DataW.TrodAll enc P W 0 (fun _=>true) true ts args.toList ds p) (hv:∀(j:Nat) t v,ts[j]?=some t→args[j]?=some v→Value.okWide P W .any base t v) (hlt:∀x∈p,x.block<W.heap.size) (hF:∀as,zW ks as→aB P f 0 as [] ⟨.bool true,[],[]⟩):
  Calls P f args W fun e W'=>e=.returned (.bool true)∧Below W.heap.size W W'∧DataW.TrodAll enc P W' 0 (fun b=>decide (b<W.heap.size)) true ts args.toList ds p:=by
 obtain⟨as,h1,h2⟩:=FO hk hA fun j t v h1 h2=>hv j t v h1 (by simpa using h2)
 obtain⟨_,hF⟩:=hF as h1 trivial
 have hrel:aW ⟨fun _=>False,W,fun _=>False,aS,none⟩ [] (fun _=>False) aS W:=
  {obj:=fun k o h=>by simp[look]at h,cH:=fun k o h=>by simp[look]at h,inj:=fun k k' o o' b N N' h=>by simp[look]at h,dom:=fun k x h=>by simp[aS]at h,keep:=fun k x h=>h,lt:=fun k b N h=>by simp[aS]at h,os:=rfl,tape:=rfl,output:=rfl,size:=Nat.le_refl _,block:=fun _ _ _=>rfl,fC:=fun b h=>h.elim,new:=fun k o b N h=>by simp[look]at h}
 have hM:aI ⟨fun _=>False,W,fun _=>False,aS,none⟩ [] aS=fun _=>False:=by
  funext b
  simp[aI,look]
 have hinv:=hF ⟨fun _=>False,W,fun _=>False,aS,none⟩ (fun _=>False) (fun _=>True) aS W _ rfl (fun b h=>h.elim) hrel (fun k h=>h.elim) (fun k _ _=>⟨id,trivial⟩) (by rw[hM];exact h2)
 rcases hinv with⟨fn',g1,g2,g3,g4⟩|⟨x,g1,_⟩
 ·have g5:=g4
  rw[show args.toList.toArray=args from by simp]at g5
  refine g5.mono fun e W' ⟨x,he,hx⟩=>?_
  obtain⟨β',q1,q2,q3⟩:=hx
  have:=q3.bool
  subst this
  have hbl:Below W.heap.size W W':=⟨q1.os,q1.tape,q1.output,q1.size,fun k hk=>q1.block k hk id⟩
  exact⟨he,hbl,Iy hl hbl hk hA hlt⟩
 ·exfalso
  simp only[callFunc,Sem.run_bind,run_program,Result.andThen_ok,hf,hb,Bool.false_eq_true,if_false]at g1
  split at g1<;>simp at g1
end
end Go.Am
