/- Plain laws of limbs. -/
import Derived.Test.YtppeigelbecpbaaGreatZ1
import Derived.ProofKit
import Derived.ChangeSlices
set_option linter.unusedVariables false
namespace Go.Am
def val:Nat→(Nat→Nat)→Nat
 |0,_=>0
 |n+1,z=>val n z+z n*2^(32*n)
theorem ff {z:Nat→Nat}:∀{n:Nat},(∀i,i<n→z i<2^32)→val n z<2^(32*n)
 |0,_=>by simp[val]
 |n+1,h=>by
  have ih:=ff (z:=z) (n:=n) fun i hi=>h i (by omega)
  have h1:=h n (by omega)
  have:z n*2^(32*n)+2^(32*n)≤2^32*2^(32*n):=by
   rw[←Nat.succ_mul];exact Nat.mul_le_mul_right _ h1
  have e:2^(32*(n+1))=2^32*2^(32*n):=by rw[←Nat.pow_add];congr 1;omega
  rw[e,val];omega
theorem val_congr {z y:Nat→Nat}:∀{n:Nat},(∀i,i<n→z i=y i)→val n z=val n y
 |0,_=>rfl
 |n+1,h=>by rw[val,val,val_congr fun i hi=>h i (by omega),h n (by omega)]
theorem lY {z:Nat→Nat} {k:Nat}:∀{n:Nat},k≤n→(∀i,k≤i→i<n→z i=0)→val n z=val k z
 |0,h,_=>by
    have:k=0:=by omega
    subst this;rfl
 |n+1,h,hz=>by
  by_cases hk:k=n+1
  ·subst hk;rfl
  ·rw[val,lY (n:=n) (by omega) fun i h1 h2=>hz i h1 (by omega),hz n (by omega) (by omega)]
   simp
theorem pE {z:Nat→Nat}:∀{n i:Nat},(∀j,j<n→z j<2^32)→i<n→az (val n z) i=z i
 |0,i,_,hi=>by omega
 |n+1,i,h,hi=>by
  unfold az
  rw[val]
  by_cases he:i=n
  ·subst he
   have:=ff (z:=z) (n:=i) fun j hj=>h j (by omega)
   rw[Nat.add_mul_div_right _ _ (Nat.two_pow_pos _),Nat.div_eq_of_lt this,Nat.zero_add]
   exact Nat.mod_eq_of_lt (h i (by omega))
  ·have ih:=pE (z:=z) (n:=n) (i:=i) (fun j hj=>h j (by omega)) (by omega)
   unfold az at ih
   have e:2^(32*n)=2^32*2^(32*(n-i-1))*2^(32*i):=by
    rw[←Nat.pow_add,←Nat.pow_add];congr 1;omega
   rw[e,←Nat.mul_assoc,Nat.add_mul_div_right _ _ (Nat.two_pow_pos _),←ih]
   rw[show z n*(2^32*2^(32*(n-i-1)))=2^32*(z n*2^(32*(n-i-1))) by
    rw[←Nat.mul_assoc,Nat.mul_comm (z n),Nat.mul_assoc]]
   rw[Nat.add_mul_mod_self_left]
theorem cZ {N i:Nat}:az N i<2^32:=Nat.mod_lt _ (by decide)
theorem Lr {N:Nat}:∀{n:Nat},val n (az N)=N%2^(32*n)
 |0=>by simp[val,Nat.mod_one]
 |n+1=>by
  rw[val,Lr,az]
  have e:2^(32*(n+1))=2^(32*n)*2^32:=by rw[←Nat.pow_add];congr 1
  rw[e,Nat.mod_mul,Nat.mul_comm (2^(32*n))]
theorem og {N n:Nat} (h:N<2^(32*n)):val n (az N)=N:=by rw[Lr,Nat.mod_eq_of_lt h]
theorem cT {N n:Nat}:nl N≤n↔N<2^(32*n):=by
 unfold nl
 by_cases h:N=0
 ·subst h;simp[Nat.two_pow_pos]
 ·rw[if_neg h]
  rw[←Nat.log2_lt h]
  omega
theorem mh {N:Nat}:N<2^(32*nl N):=cT.1 (Nat.le_refl _)
theorem fu {N:Nat}:val (nl N) (az N)=N:=og mh
theorem aj4 {z:Nat→Nat} {n:Nat} (h0:0<n) (h:z (n-1)≠0):2^(32*(n-1))≤val n z:=by
 obtain⟨m,rfl⟩:∃m,n=m+1:=⟨n-1,by omega⟩
 rw[val]
 simp only[Nat.add_sub_cancel]at h ⊢
 have:1*2^(32*m)≤z m*2^(32*m):=Nat.mul_le_mul_right _ (by omega)
 omega
theorem Cz {z:Nat→Nat} {n:Nat} (hz:∀i,i<n→z i<2^32) (h:n=0∨z (n-1)≠0):nl (val n z)=n:=by
 rcases Nat.eq_zero_or_pos n with rfl|h0
 ·simp[val,nl]
 ·have h1:nl (val n z)≤n:=cT.2 (ff hz)
  have h2:¬nl (val n z)≤n-1:=by
   rw[cT]
   have:=aj4 h0 (h.resolve_left (by omega))
   omega
  omega
theorem DD {N:Nat} (h:N≠0):az N (nl N-1)≠0:=by
 intro h0
 have hn:0<nl N:=by unfold nl;rw[if_neg h];omega
 have h1:val (nl N) (az N)=val (nl N-1) (az N):=lY (by omega) fun i h1 h2=>by
  have:i=nl N-1:=by omega
  rw[this,h0]
 rw[fu]at h1
 have h3:N<2^(32*(nl N-1)):=by
  exact Nat.lt_of_le_of_lt (Nat.le_of_eq h1) (ff (z:=az N) (n:=nl N-1) fun i _=>cZ)
 have h2:nl N≤nl N-1:=cT.2 h3
 omega
theorem fB {N:Nat}:0<nl N↔N≠0:=by
 unfold nl
 split<;>simp_all
theorem gz {a b:Nat} (h:a≤b):nl a≤nl b:=cT.2 (Nat.lt_of_le_of_lt h mh)
theorem wrap_i64 {x:Int} (h1:-2^63≤x) (h2:x<2^63):IntKind.i64.wrap x=x:=by
 simp[IntKind.wrap,IntKind.bits,IntKind.signed];omega
theorem bO {x:Int} (h1:0≤x) (h2:x<2^64):IntKind.u64.wrap x=x:=by
 simp[IntKind.wrap,IntKind.bits,IntKind.signed];omega
theorem mP {x:Int}:IntKind.u64.wrap x=x%2^64:=by
 simp[IntKind.wrap,IntKind.bits,IntKind.signed]
theorem kD {x:Int}:IntKind.u32.wrap x=x%2^32:=by
 simp[IntKind.wrap,IntKind.bits,IntKind.signed]
theorem wrap_u32 {x:Int} (h1:0≤x) (h2:x<2^32):IntKind.u32.wrap x=x:=by
 rw[kD];omega
theorem Aj {x:Nat}:IntKind.u64.wrap (x:Int)=(x%2^64:Nat):=by
 rw[mP];omega
theorem iZ {x:Nat}:IntKind.u32.wrap (x:Int)=(x%2^32:Nat):=by
 rw[kD];omega
theorem sk {a b:Nat} (ha:a<2^64) (hb:b<2^64):
  IntKind.u64.wrap ((BitVec.ofInt IntKind.u64.bits (a:Int)|||BitVec.ofInt IntKind.u64.bits (b:Int)).toNat:Int)=((a|||b:Nat):Int):=by
 have e:(BitVec.ofInt IntKind.u64.bits (a:Int)|||BitVec.ofInt IntKind.u64.bits (b:Int)).toNat=a|||b:=by
  rw[BitVec.toNat_or,BitVec.ofInt_natCast,BitVec.ofInt_natCast,BitVec.toNat_ofNat,BitVec.toNat_ofNat]
  rw[show IntKind.u64.bits=64 from rfl,Nat.mod_eq_of_lt ha,Nat.mod_eq_of_lt hb]
 rw[e]
 have:a|||b<2^64:=Nat.or_lt_two_pow ha hb
 exact bO (by omega) (by omega)
theorem afx {a b:Nat} (ha:a<2^64) (hb:b<2^64):
  IntKind.u64.wrap ((BitVec.ofInt IntKind.u64.bits (a:Int)&&&BitVec.ofInt IntKind.u64.bits (b:Int)).toNat:Int)=((a&&&b:Nat):Int):=by
 have e:(BitVec.ofInt IntKind.u64.bits (a:Int)&&&BitVec.ofInt IntKind.u64.bits (b:Int)).toNat=a&&&b:=by
  rw[BitVec.toNat_and,BitVec.ofInt_natCast,BitVec.ofInt_natCast,BitVec.toNat_ofNat,BitVec.toNat_ofNat]
  rw[show IntKind.u64.bits=64 from rfl,Nat.mod_eq_of_lt ha,Nat.mod_eq_of_lt hb]
 rw[e]
 have:a&&&b<2^64:=Nat.and_lt_two_pow a hb
 exact bO (by omega) (by omega)
theorem qm {a b i:Nat} (h:b<2^i):a*2^i|||b=a*2^i+b:=by
 rw[←Nat.shiftLeft_eq,←Nat.shiftLeft_add_eq_or_of_lt h]
theorem ki {x:Int}:x.fdiv (2^min (Int.toNat 32) IntKind.u64.bits)=x/4294967296:=by
 have:min (Int.toNat 32) IntKind.u64.bits=32:=rfl
 rw[this,Int.fdiv_eq_ediv_of_nonneg _ (by decide)]
 rfl
theorem E1 {x:Int}:x.fdiv (2^min (Int.toNat 63) IntKind.u64.bits)=x/9223372036854775808:=by
 have:min (Int.toNat 63) IntKind.u64.bits=63:=rfl
 rw[this,Int.fdiv_eq_ediv_of_nonneg _ (by decide)]
 rfl
theorem yO {x:Int}:x*2^min (Int.toNat 32) IntKind.u64.bits=x*4294967296:=by
 have:min (Int.toNat 32) IntKind.u64.bits=32:=rfl
 rw[this];rfl
theorem IK {B c z y v t s:Nat} (hs:s=c+z+y) (h:v+c*B=t):v+s%4294967296*B+s/4294967296*(4294967296*B)=t+z*B+y*B:=by
 have h1:=Nat.div_add_mod s 4294967296
 generalize s/4294967296=q at*
 generalize s%4294967296=r at*
 subst h1 h
 have:c*B+z*B+y*B=(4294967296*q+r)*B:=by rw[←Nat.add_mul,←Nat.add_mul,hs]
 grind
theorem gr {i:Nat}:2^(32*(i+1))=4294967296*2^(32*i):=by
 rw[show 32*(i+1)=32+32*i by omega,Nat.pow_add]
end Go.Am

/- aS over natural numbers. -/
namespace Go.Am
open AV
def numOf (v:AV):Nat:=match v with
 |.int _ z=>z.toNat
 |_=>0
def dz (n:Nat) (f:Nat→AV):Prop:=∀i,i<n→∃z:Nat,z<2^32∧f i=.int .u32 z
theorem Gl {z:Nat→Nat} {i:Nat}:numOf (ay z i)=z i:=by simp[numOf,ay]
theorem jd {n:Nat} {z:Nat→Nat}:(val n fun i=>numOf (ay z i))=val n z:=val_congr fun _ _=>Gl
theorem fG {n:Nat} {z:Nat→Nat} (h:∀i,i<n→z i<2^32):dz n (ay z):=fun i hi=>⟨z i,h i hi,rfl⟩
def p8:AV→Option (Nat×Nat×List Prop)
 |.mag N=>some (N,nl N,[])
 |.nil=>some (0,0,[])
 |.aj es n f=>if es==1 then some (val n fun i=>numOf (f i),n,[dz n f])else none
 |_=>none
theorem zM {a:AV} {N n:Nat} {q:List Prop} (h:p8 a=some (N,n,q)) (hq:ax q):∃z:Nat→Nat,(∀i,i<n→z i<2^32)∧val n z=N∧bw a (.aj 1 n (ay z)):=by
 cases a<;>simp only[p8,reduceCtorEq,Option.some.injEq,Prod.mk.injEq]at h
 case mag M=>
  obtain⟨rfl,rfl,rfl⟩:=h
  exact⟨az M,fun i _=>cZ,fu,O8 rfl fun i _=>rfl⟩
 case nil=>
  obtain⟨rfl,rfl,rfl⟩:=h
  exact⟨fun _=>0,fun i hi=>by omega,rfl,kS (by omega)⟩
 case aj es m f=>
  split at h
  ·rename_i he
   simp only[Option.some.injEq,Prod.mk.injEq]at h
   obtain⟨rfl,rfl,rfl⟩:=h
   have hq:dz m f:=hq
   have he:es=1:=by simpa using he
   subst he
   refine⟨fun i=>numOf (f i),fun i hi=>?_,rfl,lH rfl fun i hi=>?_⟩
   ·obtain⟨z,h1,h2⟩:=hq i hi
    simp only[h2,numOf];omega
   ·obtain⟨z,h1,h2⟩:=hq i hi
    simp[h2,numOf,ay]
  ·simp at h
def kQ (g:Nat→Nat→cU):List AV→Option cU
 |[a]=>match p8 a with
  |some (N,n,q)=>some ⟨(g N n).res,[],q++(g N n).gI⟩
  |none=>none
 |_=>none
def gD (g:Nat→Nat→Nat→Nat→cU):List AV→Option cU
 |[a,b]=>match p8 a,p8 b with
  |some (A,n,p),some (B,m,q)=>some ⟨(g A n B m).res,[],p++(q++(g A n B m).gI)⟩
  |_,_=>none
 |_=>none
def Bs (g:Nat→Nat→Int→cU):List AV→Option cU
 |[a,.int .u32 k]=>match p8 a with
  |some (N,n,q)=>some ⟨(g N n k).res,[],q++(g N n k).gI⟩
  |none=>none
 |_=>none
abbrev aG (v:AV) (l:List Prop):cU:=⟨v,[],l⟩
section oks
variable {P:Program} {f:FuncId}
theorem tA {g:Nat→Nat→cU} (h:∀z n K,(∀i,i<n→z i<2^32)→(g (val n z) n).need→aA P f K [.aj 1 n (ay z)] [] (aG (g (val n z) n).res [])):
  ∀K args r,bf args=[]→kQ g args=some r→r.post=[]→aA P f K args [] r:=by
 intro K args r hk hs _ need
 match args,hs with
 |[a],hs=>
  simp only[kQ]at hs
  split at hs
  ·rename_i N n q hn
   simp only[Option.some.injEq]at hs
   subst hs
   obtain⟨n1,n2⟩:=er.1 need
   obtain⟨z,hz,rfl,hle⟩:=zM hn n1
   exact fO (h z n K hz n2) hk ⟨hle,trivial⟩ [] trivial
  ·simp at hs
theorem Tb {g:Nat→Nat→Int→cU} (h:∀z n i K,(∀i,i<n→z i<2^32)→(g (val n z) n i).need→aA P f K [.aj 1 n (ay z),.int .u32 i] [] (aG (g (val n z) n i).res [])):
  ∀K args r,bf args=[]→Bs g args=some r→r.post=[]→aA P f K args [] r:=by
 intro K args r hk hs _ need
 unfold Bs at hs
 split at hs
 ·rename_i a i
  split at hs
  ·rename_i N n q hn
   simp only[Option.some.injEq]at hs
   subst hs
   obtain⟨n1,n2⟩:=er.1 need
   obtain⟨z,hz,rfl,hle⟩:=zM hn n1
   exact fO (h z n i K hz n2) hk ⟨hle,.refl _,trivial⟩ [] trivial
  ·simp at hs
 ·simp at hs
theorem tE {g:Nat→Nat→Nat→Nat→cU} (h:∀z n y m K,(∀i,i<n→z i<2^32)→(∀i,i<m→y i<2^32)→(g (val n z) n (val m y) m).need→
   aA P f K [.aj 1 n (ay z),.aj 1 m (ay y)] [] (aG (g (val n z) n (val m y) m).res [])):
  ∀K args r,bf args=[]→gD g args=some r→r.post=[]→aA P f K args [] r:=by
 intro K args r hk hs _ need
 match args,hs with
 |[a,b],hs=>
  simp only[gD]at hs
  split at hs
  ·rename_i N n q M m p hn hm
   simp only[Option.some.injEq]at hs
   subst hs
   obtain⟨n1,n4⟩:=er.1 need
   obtain⟨n2,n3⟩:=er.1 n4
   obtain⟨z,hz,rfl,hle⟩:=zM hn n1
   obtain⟨y,hy,rfl,hle2⟩:=zM hm n2
   exact fO (h z n y m K hz hy n3) hk ⟨hle,hle2,trivial⟩ [] trivial
  ·simp at hs
theorem bp {P:Program}:aW P []:=fun f s h=>by simp[look]at h
theorem aH {f:FuncId} {s:Spec} {Γ:aS} (h:∀K args pre r,s K args pre=some r→aA P f K args pre r) (hΓ:aW P Γ):aW P ((f,s)::Γ):=by
 intro f' s' hl
 simp only[look]at hl
 split at hl
 ·rename_i he
  have:f=f':=by simpa using he
  subst this
  simp only[Option.some.injEq]at hl
  subst hl
  exact h
 ·exact hΓ f' s' hl
end oks
def cH (a b:Nat):Int:=if a<b then-1 else if b<a then 1 else 0
def bu (N:Nat):Nat:=if N=0 then 0 else N.log2+1
end Go.Am

/- Results that are seen; slices that may be nil. -/
namespace Go.Am
open AV
def kH (sl:List (Nat×AV)):List ResultVar→Option (List AV)
 |[]=>some []
 |.tmp t::l=>match look t sl,kH sl l with
  |some v,some m=>if v.isTuple then none else some (v::m)
  |_,_=>none
 |_=>none
def G3 (fn:Func) (sl:List (Nat×AV)):Option (List AV):=
 match kH sl fn.results.toList with
 |some us=>match bf us with
  |[]=>dS [] us
  |_=>none
 |none=>none
theorem Gk {s:aI} {t:Nat} {v:AV} (hv:v.isTuple=false):∀{ls:List Nat},look t (aB ls (jS s ls))=some v→look t s.cu=some v
 |[],h=>by simp[aB,look]at h
 |x::ls,h=>by
  simp only[jS,aB,look]at h
  split at h
  ·rename_i he
   have:x=t:=by simpa using he
   subst this
   simp only[Option.some.injEq]at h
   subst h
   exact Jv hv
  ·exact Gk hv h
theorem Ir {T:Types} {s:aI} {ls:List Nat}:∀{l:List ResultVar} {us:List AV},kH (aB ls (jS s ls)) l=some us→fE T s l=some (us,[])
 |[],us,h=>by simp only[kH,Option.some.injEq]at h;subst h;rfl
 |.tmp t::l,us,h=>by
  simp only[kH]at h
  split at h
  ·rename_i v m hv hm
   split at h
   ·simp at h
   ·rename_i ht
    simp only[Option.some.injEq]at h
    subst h
    simp only[fE,zG,Gk (by simpa using ht) hv,Ir hm]
    simp[ht]
  ·simp at h
 |.cell _ _::_,us,h=>by simp[kH]at h
theorem fJ {T:Types} {fn:Func} {ls:List Nat} {vs us:List AV} {os:aC} {e:ak} {s':aI} {res:AV} (he:e=.normal∨e=.ret) (hv:aY ls s'=some (vs,os)) (hr:G3 fn (aB ls vs)=some us) (hres:dI us res):Fin T fn res e s':=by
 unfold aY at hv
 simp only[Option.some.injEq,Prod.mk.injEq]at hv
 obtain⟨rfl,_⟩:=hv
 unfold G3 at hr
 split at hr
 ·rename_i rs hrs
  split at hr
  ·rename_i hk
   refine⟨he,rs,[],us,Ir hrs,trivial,?_,hres⟩
   rw[hk];exact hr
  ·simp at hr
 ·simp at hr
theorem Qp {P:Program} {f:FuncId} {K es n:Nat} {g:Nat→AV} {l:List AV} {r:cU} (h:∀b,(b=true→n=0)→aA P f K (.dg b es n g::l) [] r):aA P f K (.aj es n g::l) [] r:=by
 intro need
 refine⟨((h false fun h=>by simp at h) need).1,fun c D D' β w vs hw0 hMw hrel hD hK hv=>?_⟩
 match vs,hv with
 |x::xs,hv=>
  obtain⟨⟨cs,h1,h2⟩,h3⟩:=hv
  have:∃b,(b=true→n=0)∧aX (aM c [] β) w β (.dg b es n g) x:=by
   cases h1 with
   |aj g1 g2 g3 g4 g5 g6=>
    rename_i base cap cs' cf
    cases g6
    refine⟨base.isNone,fun hb=>?_,_,.dg rfl g1 g2 g3 g4 g5 .nil,h2⟩
    rcases g1 with g1|⟨b,o,rfl,_⟩
    ·exact g1
    ·simp at hb
  obtain⟨b,hb0,hb⟩:=this
  exact((h b hb0) need).2 c D D' β w (x::xs) hw0 hMw hrel hD hK ⟨hb,h3⟩
theorem I4 {z y:Nat→Nat} {k:Nat}:∀{n:Nat},k<n→(∀j,k<j→j<n→z j=y j)→z k<y k→(∀i,i<n→z i<2^32)→val n z<val n y
 |0,h,_,_,_=>by omega
 |n+1,h,he,hk,hz=>by
  rw[val,val]
  by_cases hn:k=n
  ·subst hn
   have h1:=ff (z:=z) (n:=k) fun i hi=>hz i (by omega)
   have h2:(z k+1)*2^(32*k)≤y k*2^(32*k):=Nat.mul_le_mul_right _ hk
   rw[Nat.add_mul,Nat.one_mul]at h2
   omega
  ·have:=I4 (n:=n) (by omega) (fun j h1 h2=>he j h1 (by omega)) hk fun i hi=>hz i (by omega)
   rw[he n (by omega) (by omega)]
   omega
theorem IA {A B:Nat} (hn:nl A=nl B) (h:∀i,i<nl A→az A i=az B i):A=B:=by
 rw[←fu (N:=A),←fu (N:=B),←hn]
 exact val_congr h
theorem Dc {A B k:Nat} (hn:nl A=nl B) (hk:k<nl A) (h:∀j,k<j→j<nl A→az A j=az B j) (hlt:az A k<az B k):A<B:=by
 have:=I4 (z:=az A) (y:=az B) hk h hlt fun i _=>cZ
 rw[fu,hn,fu]at this
 exact this
theorem B1 {A B:Nat} (h:nl A<nl B):A<B:=by
 rcases Nat.lt_or_ge A B with h1|h1
 ·exact h1
 ·have:=gz h1;omega
theorem eV {ρ:Nat→Option Nat} {r w:Bool} {n m:Nat} {f:Nat→AV} {o:Nat→Nat} (hn:m=n) (h:∀j,j<n→f j=ay o j):cJ ρ ⟨r,w,1,n,f⟩ ⟨r,w,1,m,ay o⟩:=
 je hn fun j hj=>by rw[h j hj];exact aK rfl
def bU (o:Nat→Nat) (i x:Nat):Nat→Nat:=fun j=>if j=i then x else o j
theorem jq {o:Nat→Nat} {i x:Nat}:bU o i x i=x:=if_pos rfl
theorem eZ {o:Nat→Nat} {i x j:Nat} (h:j≠i):bU o i x j=o j:=if_neg h
theorem gC {o:Nat→Nat} {i x b:Nat} {n:Nat} (hx:x<b) (ho:∀j,j<n→o j<b):∀j,j<n→bU o i x j<b:=fun j hj=>by
 unfold bU
 split
 ·exact hx
 ·exact ho j hj
theorem ga {o:Nat→Nat} {i x:Nat} {v:Int} (hv:v=(x:Nat)) (j:Nat):(if j=i then AV.int .u32 v else ay o j)=ay (bU o i x) j:=by
 unfold ay bU
 split
 ·rw[hv]
 ·rfl
theorem qi {o:Nat→Nat} {i x:Nat}:∀{n:Nat},i<n→o i=0→val n (bU o i x)=val n o+x*2^(32*i)
 |0,h,_=>by omega
 |n+1,h,h0=>by
  rw[val,val]
  by_cases hn:i=n
  ·subst hn
   rw[jq,h0,val_congr (y:=o) fun j hj=>eZ (by omega)]
   omega
  ·rw[qi (n:=n) (by omega) h0,eZ (by omega)]
   omega
theorem qG {o:Nat→Nat} {i x:Nat}:val (i+1) (bU o i x)=val i o+x*2^(32*i):=by
 rw[val,jq,val_congr (y:=o) fun j hj=>eZ (by omega)]
theorem tn {x k:Nat} (h:2^k≤x):bu x=k+bu (x/2^k):=by
 have hk:=Nat.two_pow_pos k
 have h0:x≠0:=by omega
 have h1:x/2^k≠0:=by
  have:=(Nat.le_div_iff_mul_le hk (x:=1) (y:=x)).2 (by omega)
  omega
 unfold bu
 rw[if_neg h0,if_neg h1]
 have:x.log2=k+(x/2^k).log2:=by
  obtain⟨g1,g2⟩:=(Nat.log2_eq_iff h1).1 rfl
  rw[Nat.log2_eq_iff h0]
  refine⟨?_,?_⟩
  ·rw[Nat.pow_add,Nat.mul_comm]
   exact(Nat.le_div_iff_mul_le hk).1 g1
  ·rw[show k+(x/2^k).log2+1=((x/2^k).log2+1)+k by omega,Nat.pow_add]
   exact(Nat.div_lt_iff_lt_mul hk).1 g2
 omega
theorem iH {x k:Nat}:bu x≤k↔x<2^k:=by
 unfold bu
 split
 ·rename_i h;subst h;simp[Nat.two_pow_pos]
 ·rename_i h;rw[←Nat.log2_lt h];omega
theorem Qi {N:Nat} (h:N≠0):bu N=32*(nl N-1)+bu (az N (nl N-1)):=by
 have hp:=fB.2 h
 have h1:2^(32*(nl N-1))≤N:=by
  rcases Nat.lt_or_ge N (2^(32*(nl N-1)))with h1|h1
  ·have:=cT.2 h1;omega
  ·exact h1
 have h2:N/2^(32*(nl N-1))<2^32:=by
  rw[Nat.div_lt_iff_lt_mul (Nat.two_pow_pos _),←Nat.pow_add]
  have:=mh (N:=N)
  rw[show 32+32*(nl N-1)=32*nl N by omega]
  exact this
 rw[tn h1,az,Nat.mod_eq_of_lt h2]
theorem Hl {o:Nat→Nat} {i x:Nat}:∀{n:Nat},i<n→val n (bU o i x)+o i*2^(32*i)=val n o+x*2^(32*i)
 |0,h=>by omega
 |n+1,h=>by
  rw[val,val]
  by_cases hn:i=n
  ·subst hn
   rw[jq,val_congr (y:=o) fun j hj=>eZ (by omega)]
   omega
  ·have:=Hl (o:=o) (x:=x) (n:=n) (i:=i) (by omega)
   rw[eZ (show n≠i by omega)]
   omega
theorem aq.ot {P:Program} {c:Ctx} {nt:Nat} {s:aI} {Q:ak→aI→Prop} {x y:Code} {i:Nat} (hx:x=.block i y) (h:aq P c nt y s (inBlock i Q)):aq P c nt x s Q:=hx▸.Ma h
theorem N4 {c x y o:Nat} (hc:c<2^32) (hx:x<2^32) (hy:y<2^32) (ho:o<2^32):
  IntKind.u64.wrap ((c:Int)+IntKind.u64.wrap (IntKind.u64.wrap (IntKind.u64.wrap (x:Int)*IntKind.u64.wrap (y:Int))+IntKind.u64.wrap (o:Int)))=((c+x*y+o:Nat):Int)∧
   c+x*y+o<2^64∧(c+x*y+o)/4294967296<2^32:=by
 have h1:x*y≤(2^32-1)*(2^32-1):=Nat.mul_le_mul (by omega) (by omega)
 have e:(x:Int)*(y:Int)=((x*y:Nat):Int):=by simp
 rw[bO (x:=(x:Int)) (by omega) (by omega),bO (x:=(y:Int)) (by omega) (by omega),bO (x:=(o:Int)) (by omega) (by omega),e]
 generalize x*y=p at*
 refine⟨?_,by omega,by omega⟩
 rw[bO (x:=(p:Int)) (by omega) (by omega),bO (x:=(p:Int)+o) (by omega) (by omega),bO (by omega) (by omega)]
 omega
theorem Jp {vo vo' oi c x yj B s q r v Bi Bj vy:Nat} (hs:s=c+x*yj+oi) (hq:4294967296*q+r=s) (hset:vo'+oi*B=vo+r*B) (hB:B=Bi*Bj) (h:vo+c*B=v+x*vy*Bi):
  vo'+q*(4294967296*B)=v+x*(vy+yj*Bj)*Bi:=by
 subst hB
 have e:(4294967296*q+r)*(Bi*Bj)=(c+x*yj+oi)*(Bi*Bj):=by rw[hq,hs]
 grind
theorem Cj {P:Program} {f:FuncId} {K:Nat} {args:List AV} {u v:AV} {l l':List Prop} (hf:aA P f K args [] ⟨u,[],l⟩) (hl:ax l'→ax l) (hk:keys u=[]) (ht:u.isTuple=false) (hle:bw u v):aA P f K args [] ⟨v,[],l'⟩:=by
 intro need
 obtain⟨h1,h2⟩:=hf (hl need)
 refine⟨fun k o ho=>by simp[look]at ho,fun c D D' β w vs hw0 hMw hrel hD hK hv=>(h2 c D D' β w vs hw0 hMw hrel hD hK hv).mono ?_⟩
 rintro x w' ⟨β',g1,g2,g3⟩
 refine⟨β',g1,g2,?_⟩
 have h3:bV _ w' β' [u] [x]:=⟨br.one g3 ht,trivial⟩
 have h4:=AH (us:=[u]) (vs:=[v]) ⟨hle,trivial⟩ (h3.aZ (by rw[Fl];exact hk))
 have h5:=h4.mono (fun b o h1 h2=>⟨h2,h1⟩) (β':=β') fun k x hx=>by simp[aZ]at hx
 exact aX.bD h5.1
theorem Ee {i:Nat} {Q:ak→aI→Prop} {s:aI} (h:Q .normal s):inBlock i Q (.exit i) s:=by
 simp only[inBlock,if_true];exact h
theorem eO {i:Nat} {k:aI→Prop} {Q:ak→aI→Prop} {s:aI} (h:Q .normal s):dm k (inBlock i Q) (.exit i) s:=by
 show inBlock i Q (.exit i) s
 exact Ee h
theorem qF {i:Nat} {k:aI→Prop} {Q:ak→aI→Prop} {s:aI} (h:Q (.exit i) s):dm k Q (.exit i) s:=h
theorem Oy {i:Nat} {k:aI→Prop} {Q:ak→aI→Prop} {s:aI} (h:Q .ret s):dm k (inBlock i Q) .ret s:=h
theorem eM {k:aI→Prop} {Q:ak→aI→Prop} {s:aI} (h:Q .ret s):dm k Q .ret s:=h
theorem EB {s:aI}:∀{a b:List Nat},jS s (a++b)=jS s a++jS s b
 |[],_=>rfl
 |x::a,b=>by simp only[List.cons_append,jS,EB]
theorem El {s:aI}:∀{a:List Nat},(jS s a).length=a.length
 |[]=>rfl
 |x::a=>by simp only[jS,List.length_cons,El]
theorem N9 {a b:List AV}:bf (a++b)=bf a++bf b:=by
 induction a with
 |nil=>rfl
 |cons x a ih=>simp only[List.cons_append,bf,ih,List.append_assoc]
theorem gZ {s:aI} {ls l:List Nat} {vs us:List AV} {os:aC} (hv:aY (ls++l) s=some (vs++us,os)) (hl:vs.length=ls.length) (hk:bf us=[]):aY ls s=some (vs,os):=by
 unfold aY at hv ⊢
 simp only[Option.some.injEq,Prod.mk.injEq,EB]at hv ⊢
 obtain⟨h1,h2⟩:=hv
 obtain⟨h3,h4⟩:=List.append_inj h1 (by rw[El,hl])
 subst h3
 refine⟨rfl,?_⟩
 rw[←h2,h4,N9,hk,List.append_nil]
end Go.Am

/- Tables of types: what has to be shown of an entry. -/
namespace Go.Am
open AV
mutual
/-- The cells of a zero value. -/
def zeroCells:AV→Option (List Value)
 |.bool b=>some [.bool b]
 |.int k n=>some [.int k n]
 |.nil=>some [.slice none 0 0]
 |.rat q n=>if q=0∧n=1 then some [.bool false,.slice none 0 0,.slice none 0 0]else none
 |.agg l=>tq l
 |_=>none
def tq:List AV→Option (List Value)
 |[]=>some []
 |a::l=>match zeroCells a,tq l with
  |some c,some d=>some (c++d)
  |_,_=>none
end
mutual
theorem Fv {M:Nat→Prop} {w:World} {β:aR}:∀{v:AV} {cs:List Value},zeroCells v=some cs→aL M w β [v] cs
 |.bool b,cs,h=>by simp only[zeroCells,Option.some.injEq]at h;subst h;exact .bool .nil
 |.int k n,cs,h=>by simp only[zeroCells,Option.some.injEq]at h;subst h;exact .int .nil
 |.nil,cs,h=>by simp only[zeroCells,Option.some.injEq]at h;subst h;exact .vnil .nil
 |.rat q n,cs,h=>by
  simp only[zeroCells]at h
  split at h
  ·rename_i hq
   obtain⟨rfl,rfl⟩:=hq
   simp only[Option.some.injEq]at h
   subst h
   have h0:aL M w aZ [.mag 0] [.slice none 0 0]:=by
    have:=aL.mag (M:=M) (w:=w) (β:=aZ) (N:=0) (base:=none) (cap:=0) (.inl rfl) (by simp[sP]) .nil
    simpa [sP]using this
   have:=aL.rat (M:=M) (w:=w) (β:=β) (q:=0) (n:=1) (x:=.slice none 0 0) (y:=.slice none 0 0) (l:=[]) (cs:=[]) ⟨by decide,by decide⟩ (by simpa using h0) (by simpa using h0) .nil
   simpa using this
  ·simp at h
 |.agg l,cs,h=>by
  simp only[zeroCells]at h
  simpa using aL.agg (O9 h) .nil
 |.mag _,cs,h=>by simp[zeroCells]at h
 |.aj _ _ _,cs,h=>by simp[zeroCells]at h
 |.dg _ _ _ _,cs,h=>by simp[zeroCells]at h
 |.bg _,cs,h=>by simp[zeroCells]at h
 |.ptr _ _ _ _ _,cs,h=>by simp[zeroCells]at h
 |.own _ _ _ _,cs,h=>by simp[zeroCells]at h
 |.func _ _,cs,h=>by simp[zeroCells]at h
 |.tuple _,cs,h=>by simp[zeroCells]at h
 |.bF _ _,cs,h=>by simp[zeroCells]at h
theorem O9 {M:Nat→Prop} {w:World} {β:aR}:∀{l:List AV} {cs:List Value},tq l=some cs→aL M w β l cs
 |[],cs,h=>by simp only[tq,Option.some.injEq]at h;subst h;exact .nil
 |a::l,cs,h=>by
  simp only[tq]at h
  cases ha:zeroCells a with
  |none=>rw[ha]at h;simp at h
  |some c=>
   cases hl:tq l with
   |none=>rw[ha,hl]at h;simp at h
   |some d=>
    rw[ha,hl]at h
    simp only[Option.some.injEq]at h
    subst h
    exact(Fv ha).cons (O9 hl)
end
def En (v:AV):Option Value:=
 match zeroCells v with
 |some cs=>if v.isAgg then some (.agg cs.toArray)else match cs with
  |[x]=>some x
  |_=>none
 |none=>none
theorem cI {P:Program} {t:TypeId} {ti:TI} (h1:P.underlying t=some ti.desc) (h2:(P.info? t).map (fun i=>(i.size,i.bytes,i.zero))=some (ti.size,ti.bytes,En ti.zero))
  (h3:(En ti.zero).isSome=true):bL P t ti:=by
 cases hi:P.info? t with
 |none=>rw[hi]at h2;simp at h2
 |some i=>
  rw[hi]at h2
  simp only[Option.map_some,Option.some.injEq,Prod.mk.injEq]at h2
  refine⟨h1,⟨i,hi,h2.1,h2.2.1⟩,fun _=>?_⟩
  obtain⟨z,hz⟩:=Option.isSome_iff_exists.1 h3
  refine⟨i,z,hi,by rw[h2.2.2,hz],fun M w β=>?_⟩
  unfold En at hz
  cases hc:zeroCells ti.zero with
  |none=>rw[hc]at hz;simp at hz
  |some cs=>
   rw[hc]at hz
   simp only at hz
   split at hz
   ·rename_i ha
    simp only[Option.some.injEq]at hz
    subst hz
    exact .Cc (Fv hc) ha
   ·rename_i ha
    split at hz
    ·simp only[Option.some.injEq]at hz
     subst hz
     exact .bW (Fv hc) (by simpa using ha)
    ·simp at hz
theorem iK {P:Program} {t:TypeId} {ti:TI} (h1:P.underlying t=some ti.desc) (h2:(P.info? t).map (fun i=>(i.size,i.bytes))=some (ti.size,ti.bytes)) (h3:ti.zero=.tuple []):bL P t ti:=by
 cases hi:P.info? t with
 |none=>rw[hi]at h2;simp at h2
 |some i=>
  rw[hi]at h2
  simp only[Option.map_some,Option.some.injEq,Prod.mk.injEq]at h2
  exact⟨h1,⟨i,hi,h2.1,h2.2⟩,fun h=>by rw[h3]at h;simp[isTuple]at h⟩
theorem adb {P:Program}:ec P []:=fun t ti h=>by simp[look]at h
theorem bS {P:Program} {t:TypeId} {ti:TI} {T:Types} (h:bL P t ti) (hT:ec P T):ec P ((t,ti)::T):=by
 intro t' ti' ht
 simp only[look]at ht
 split at ht
 ·rename_i he
  have:t=t':=by simpa using he
  subst this
  simp only[Option.some.injEq]at ht
  subst ht
  exact h
 ·exact hT t' ti' ht
end Go.Am

/- aS of functions that are handed objects to write to, or give back such; loops by what is seen. -/
namespace Go.Am
open AV
theorem bV.length {M:Nat→Prop} {w:World} {β:aR}:∀{us:List AV} {xs:List Value},bV M w β us xs→us.length=xs.length
 |[],[],_=>rfl
 |_::_,_::_,h=>by simp[bV.length h.2]
 |[],_::_,h=>h.elim
 |_::_,[],h=>h.elim
theorem bV.weak {c c':Ctx} {β β2:aR} {w:World} {ρ:Nat→Option Nat} {M M':Nat→Prop} (hM:∀b,M' b→M b) (hβ:∀k2 k1,ρ k2=some k1→β2 k2=β k1):∀{us vs:List AV} {xs:List Value},fm ρ us vs→bV M w β us xs→bV M' w β2 vs xs
 |[],[],[],_,_=>trivial
 |u::us,v::vs,x::xs,h,hv=>⟨hv.1.weak hM hβ h.1.2,bV.weak (c:=c) (c':=c') hM hβ h.2 hv.2⟩
 |[],_::_,_,h,_=>h.elim
 |_::_,[],_,h,_=>h.elim
 |_::_,_::_,[],_,h=>h.elim
 |[],[],_::_,_,h=>h.elim
theorem ZK {nx:Nat} {rl:List (Nat×Nat)} (hr:gR nx rl=true):∀a b k,aV rl a=some k→aV rl b=some k→a=b:=by
 intro a b k ha hb
 have:=List.all_eq_true.1 hr _ (qI ha)
 simp only[Bool.and_eq_true,decide_eq_true_eq]at this
 simpa using List.all_eq_true.1 this.2 _ (qI hb)
theorem Ox {nx:Nat} {rl:List (Nat×Nat)} (hr:gR nx rl=true) {a k:Nat} (ha:aV rl a=some k):a<nx:=by
 have:=List.all_eq_true.1 hr _ (qI ha)
 simp only[Bool.and_eq_true,decide_eq_true_eq]at this
 exact this.1
theorem Tm {M:Nat→Prop} {w:World} {β:aR} {us:List AV} {xs:List Value} (h:bV M w β us xs):br M w β (kA us) (if h:xs.length=1 then xs.toArray[0]'(by simpa using(show 0<xs.length by omega))else .tuple xs.toArray):=by
 have hl:=h.length
 match us,xs,h,hl with
 |[],[],_,_=>exact⟨[],rfl,trivial⟩
 |[u],[x],h,_=>exact h.1.bD
 |u::u'::us,x::x'::xs,h,_=>simp only[List.length_cons,Nat.add_eq_right,Nat.add_eq_zero_iff,Nat.succ_ne_zero,and_false,dite_false];exact⟨_,rfl,h⟩
section core
variable {P:Program} {T:Types}
structure C2 (T:Types) (fn:Func) (τ:Nat→Option Nat) (pre:aC) (r:cU) (s:aI):Prop where
 ends:Ends T fn r.res s
 Es:∀k o,look k (ck (eF r.post) pre)=some o→∃k1 o1,τ k=some k1∧look k1 s.store=some o1∧o1.row=false∧cJ τ o1 o
structure wN (T:Types) (fn:Func) (τ:Nat→Option Nat) (pre:aC) (r:cU) (s:aI):Prop where
 ends:∃vs q us,fE T s fn.results.toList=some (vs,q)∧ax q∧fm τ vs us∧r.res=kA us
 Es:∀k o,look k (ck (eF r.post) pre)=some o→∃k1 o1,τ k=some k1∧look k1 s.store=some o1∧cJ τ o1 o
structure tK (rl:List (Nat×Nat)) (K:Nat) (pre:aC) (τ:Nat→Option Nat):Prop where
 inj:∀a b k,τ a=some k→τ b=some k→a=b
 dom:∀k a,τ k=some a→aV rl a=some k∨(K≤k∧k<K+cq)
theorem Xk (hT:ec P T) {f:FuncId} {fn:Func} {x:Code} (hf:aP P f fn x) {args args0:List AV} {pre pre0:aC} {r:cU} {K nx:Nat} (rl:List (Nat×Nat)) (hlen:args0.length≤fn.ntmps) (hr:gR nx rl=true)
  (ha:fm (aV rl) args args0) (hp:mS (aV rl) pre pre0) (hrl:∀a k,aV rl a=some k→∃o,look k pre=some o)
  (hpost:∀k o,look k r.post=some o→(∃o',look k pre=some o')∨(K≤k∧k<K+cq))
  (h:r.need→∀c:Ctx,c.ro=none→(∀k x,c.k0 k=some x→(aV rl k).isSome=true)→aq P c fn.ntmps x ⟨aN 0 args0,pre0,nx⟩ fun e s'=>(e=.normal∨e=.ret)∧∃τ,tK rl K pre τ∧(C2 T fn τ pre r s'∨wN T fn τ pre r s')):aA P f K args pre r:=by
 intro need
 refine⟨hpost,fun c D D' β w vs hw0 hMw hrel hD hK hv=>.inl ⟨fn,hf.get,hf.name,by simp[hf.body],?_⟩⟩
 have hobj0:=Gg hp
 have hβ0:∀k2 k1,aV rl k2=some k1→(fun a=>(aV rl a).bind β) k2=β k1:=fun k2 k1 h=>by simp[h]
 have hW:bn {c with k0:=fun a=>(aV rl a).bind β,ro:=none} pre0 (fun k=>k<nx) (fun a=>(aV rl a).bind β) w:=by
  refine hrel.weak (c':={c with k0:=fun a=>(aV rl a).bind β,ro:=none}) (ρ:=aV rl) rfl rfl rfl (ZK hr) (fun k o h=>.inl (hobj0 k o h)) hβ0 (fun k2 k1 h=>Ox hr h) (fun k2 x hk=>?_) (fun k2 b N hk=>?_) (fun k x hk=>hk)
  ·cases h1:aV rl k2 with
   |none=>simp[h1]at hk
   |some k1=>exact Ox hr h1
  ·cases h1:aV rl k2 with
   |none=>simp[h1]at hk
   |some k1=>simp[h1]at hk;exact hrel.lt k1 b N hk
 have hv0:bV (aM {c with k0:=fun a=>(aV rl a).bind β,ro:=none} pre0 (fun a=>(aV rl a).bind β)) w (fun a=>(aV rl a).bind β) args0 vs:=
  hv.weak (c:=c) (c':=c) (ρ:=aV rl) (CJ rfl (fun k o h=>.inl (hobj0 k o h)) hβ0) hβ0 ha
 have hl0:=hv0.length
 have hstart:Rel {c with k0:=fun a=>(aV rl a).bind β,ro:=none} fn.ntmps (fun k=>k<nx) (aN 0 args0) pre0 {tmps:=vs.toArray++Array.replicate (fn.ntmps-vs.toArray.size) undef,defers:=[]} w:=by
  refine⟨.nil,by simp;omega,_,hW,?_⟩
  have:=EL (pre:=#[]) (post:=Array.replicate (fn.ntmps-vs.toArray.size) undef) hv0 rfl
  simpa using this
 refine callsIn_wide.1 (callsIn_of_wp_marks (F:=Fence.wide) (n:=3) hf.get hf.body trivial (wpIn_mono (h need {c with k0:=fun a=>(aV rl a).bind β,ro:=none} rfl (fun k x hk=>by
  cases h1:aV rl k with
  |none=>simp[h1]at hk
  |some k1=>rfl) _ w hstart) ?_))
 rintro e a' w9 ⟨ae,s',rfl,hr9,hex,τ,hτ,hends⟩
 obtain⟨w',hr',hleave⟩:=Rel.leave (P:=P) (fn:=fn) (R:=fun e w'=>∃x,e=.returned x∧eo c pre D' β w (eF r.post) r.res x w') hr9
 -- what the end gives, in the function's own keys
 have hfin:∃x β1 st1,(results fn a'.tmps).run P w'=.ok x w'∧bn {c with k0:=fun a=>(aV rl a).bind β,ro:=none} st1 (fun k=>k<s'.next) β1 w'∧
   (∀k o,look k (ck (eF r.post) pre)=some o→∃k1 o1,τ k=some k1∧look k1 st1=some o1∧cJ τ o1 o)∧
   br (aM {c with k0:=fun a=>(aV rl a).bind β,ro:=none} st1 β1) w' (fun k=>(τ k).bind β1) r.res x:=by
  rcases hends with hends|hends
  ·obtain⟨hdef,x,β1,st1,hrun,hw1,hvx,hrow⟩:=Ns hT hends.ends hr'
   refine⟨x,β1,st1,hrun,hw1,fun k o hk=>?_,hvx.mono (fun b o h1 h2=>⟨h2,h1⟩) fun k x hk=>by simp[aZ]at hk⟩
   obtain⟨k1,o1,g1,g2,g3,g4⟩:=hends.Es k o hk
   exact⟨k1,o1,g1,hrow k1 o1 g2 g3,g4⟩
  ·obtain⟨a1,a2,β1,a3,a4⟩:=hr'
   obtain⟨vs1,q,us,h1,hq,h2,h3⟩:=hends.ends
   obtain⟨xs,hxs,hv,hlen⟩:=Ih hT a3 a4 (g:=fun x=>match x with
    |ResultVar.tmp t=>pure (a'.tmps.getD t undef)
    |ResultVar.cell r t=>do let y ←asAddr (a'.tmps.getD r undef);loadVar t y) (fun _=>rfl) (fun _ _=>rfl) h1 hq
   refine⟨if h:xs.length=1 then xs.toArray[0]'(by simpa using(show 0<xs.length by omega))else .tuple xs.toArray,β1,s'.store,?_,a3,hends.Es,?_⟩
   ·have key:results fn a'.tmps=(do
      let vs ←fn.results.mapM fun x=>match x with
       |ResultVar.tmp t=>pure (a'.tmps.getD t undef)
       |ResultVar.cell r t=>do let y ←asAddr (a'.tmps.getD r undef);loadVar t y
      pure (if h:vs.size=1 then vs[0]else Value.tuple vs)):=rfl
    rw[key,Sem.run_bind,Array.mapM_eq_mapM_toList,Sem.run_map,hxs]
    simp only[Result.andThen_ok,Sem.run_pure]
    congr 1
   ·rw[h3]
    exact Tm (hv.weak (c:=c) (c':=c) (ρ:=τ) (fun _ h=>h) (fun k2 k1 h=>by simp[h]) h2)
 obtain⟨x,β1,st1,hrun,hw1,hobj1,hvx⟩:=hfin
 have hkeep1:∀k a,τ k=some a→∀y,β k=some y→β1 a=some y:=by
  intro k a hka y hy
  rcases hτ.dom k a hka with h1|⟨h1,h2⟩
  ·exact hw1.keep a y (by simp only[h1,Option.bind_some];exact hy)
  ·exact absurd (hrel.dom k y hy) (hK k h1 h2).1
 have hβ2:∀k2 k1,τ k2=some k1→(fun k=>match τ k with
   |some a=>β1 a
   |none=>β k) k2=β1 k1:=fun k2 k1 h=>by simp[h]
 have hW2:bn c (ck (eF r.post) pre) D' (fun k=>match τ k with
   |some a=>β1 a
   |none=>β k) w':=by
  have hd2:∀k2 a,τ k2=some a→D' k2:=fun k2 a ha=>by
   rcases hτ.dom k2 a ha with h1|⟨h1,h2⟩
   ·obtain⟨o,ho⟩:=hrl a k2 h1
    cases hb:β k2 with
    |some x=>exact hD _ (hrel.dom k2 _ hb)
    |none=>exact hD _ (hrel.dx k2 o ho hb).2
   ·exact(hK k2 h1 h2).2
  refine hw1.weak (c':=c) (ρ:=τ) rfl rfl rfl hτ.inj (fun k o h=>.inl (hobj1 k o h)) hβ2 hd2 (fun k2 y hk=>?_) (fun k2 b N hk=>?_) (fun k y hk=>?_)
  ·split at hk
   ·rename_i a ha
    exact hd2 k2 a ha
   ·exact hD _ (hrel.dom k2 y hk)
  ·split at hk
   ·exact hw1.lt _ b N hk
   ·exact Nat.lt_of_lt_of_le (hrel.lt k2 b N hk) (by have:=hw1.size;rw[←hw0];exact this)
  ·have hy:=hrel.keep k y hk
   split
   ·rename_i a ha
    exact hkeep1 k a ha y hy
   ·exact hy
 have hO:eo c pre D' β w (eF r.post) r.res x w':=by
  refine⟨_,hW2,⟨fun b o hb ho=>?_,fun k y hk=>?_⟩,?_⟩
  ·have hlt:b<c.w0.heap.size:=by rw[hw0];exact DV ho
   have hmw:¬c.Mw b:=fun hm=>hb (hMw b hm)
   refine⟨?_,?_⟩
   ·rw[hw1.block b hlt hmw]
    show c.w0.heap[b]?=_
    rw[hw0];exact ho
   ·rintro(hm|⟨k,o',N,h1,h2,h3⟩)
    ·exact hb (.inl hm)
    ·rcases hW2.new k o' b N h1 h2 h3 with h4|h4
     ·omega
     ·exact hmw h4
  ·split
   ·rename_i a ha
    exact hkeep1 k a ha y hk
   ·exact hk
  ·refine hvx.mono (fun b o h1 h2=>⟨h2,fun h3=>h1 (CJ (c:={c with k0:=fun a=>(aV rl a).bind β,ro:=none}) rfl (fun k o h=>.inl (hobj1 k o h)) hβ2 b h3)⟩) (fun k y hk=>?_)
   cases h1:τ k with
   |none=>simp[h1]at hk
   |some a=>simpa [h1]using hk
 rcases hex with rfl|rfl
 ·exact hleave x hrun ⟨x,rfl,hO⟩
 ·exact hleave x hrun ⟨x,rfl,hO⟩
theorem nu (hT:ec P T) {f:FuncId} {fn:Func} {x:Code} (hf:aP P f fn x) {args args0:List AV} {pre pre0:aC} {r:cU} {K nx:Nat} (rl:List (Nat×Nat)) (hlen:args0.length≤fn.ntmps) (hr:gR nx rl=true)
  (ha:fm (aV rl) args args0) (hp:mS (aV rl) pre pre0) (hrl:∀a k,aV rl a=some k→∃o,look k pre=some o)
  (hpost:∀k o,look k r.post=some o→(∃o',look k pre=some o')∨(K≤k∧k<K+cq))
  (h:r.need→∀c:Ctx,(∀k x,c.k0 k=some x→(aV rl k).isSome=true)→aq P c fn.ntmps x ⟨aN 0 args0,pre0,nx⟩ fun e s'=>(e=.normal∨e=.ret)∧∃τ,tK rl K pre τ∧(C2 T fn τ pre r s'∨wN T fn τ pre r s')):aA P f K args pre r:=
 Xk hT hf rl hlen hr ha hp hrl hpost fun need c _=>h need c
end core
def iD (nx:Nat) (vs:List AV):Bool:=(vs.all fun v=>!v.isTuple)&&(bf vs).all fun k=>decide (k<nx)
def gm (nx:Nat):aC→Prop
 |[]=>True
 |(k,o)::l=>(k<nx∧∀i,i<o.len→keys (o.f i)=[])∧gm nx l
theorem QG {nx:Nat}:∀{os:aC},gm nx os→∀{k:Nat} {o:ah},look k os=some o→k<nx∧∀i,i<o.len→keys (o.f i)=[]
 |[],_,k,o,h=>by simp[look]at h
 |(j,b)::l,h,k,o,hk=>by
  simp only[look]at hk
  split at hk
  ·rename_i he
   have:j=k:=by simpa using he
   subst this
   simp only[Option.some.injEq]at hk
   subst hk
   exact h.1
  ·exact QG h.2 hk
theorem Pb {nx:Nat} {u:AV} (hk:∀k∈keys u,k<nx):fX (fun k=>if k<nx then some k else none) u u:=by
 refine⟨rfl,fun M w β cs hc=>?_⟩
 have gen:∀{l:List AV} {cs:List Value},aL M w β l cs→(∀k∈bf l,k<nx)→aL M w (fun k=>(if k<nx then some k else none).bind β) l cs:=by
  intro l cs h
  generalize hβ:β=β' at h
  induction h with
  |nil=>exact fun _=>.nil
  |bool _ ih=>exact fun h=>.bool (ih hβ (by simpa [bf,keys]using h))
  |int _ ih=>exact fun h=>.int (ih hβ (by simpa [bf,keys]using h))
  |rat hs h1 h2 _ _ _ ih=>exact fun h=>.rat hs h1 h2 (ih hβ (by simpa [bf,keys]using h))
  |mag h1 h2 _ ih=>exact fun h=>.mag h1 h2 (ih hβ (by simpa [bf,keys]using h))
  |agg _ _ ih1 ih2=>exact fun h=>.agg (ih1 hβ fun k hk=>h k (by simp only[bf,keys];exact List.mem_append_left _ hk)) (ih2 hβ fun k hk=>h k (by simp only[bf];exact List.mem_append_right _ hk))
  |aj h1 h2 h3 h4 h5 _ _ ih=>exact fun h=>.aj h1 h2 h3 h4 h5 (ih hβ (by simpa [bf,keys]using h))
  |dg hq h1 h2 h3 h4 h5 _ _ ih=>exact fun h=>.dg hq h1 h2 h3 h4 h5 (ih hβ (by simpa [bf,keys]using h))
  |vnil _ ih=>exact fun h=>.vnil (ih hβ (by simpa [bf,keys]using h))
  |void hx _ ih=>exact fun h=>.void hx (ih hβ (by simpa [bf,keys]using h))
  |str _ ih=>exact fun h=>.str (ih hβ (by simpa [bf,keys]using h))
  |bg h1 h2 _ _ ih=>exact fun h=>.bg h1 h2 (ih hβ (by simpa [bf,keys]using h))
  |@ptr _ k _ _ _ _ _ _ _ _ hk _ ih=>
   intro h
   have:k<nx:=h k (by simp[bf,keys])
   exact .ptr (by simp only[this,if_true,Option.bind_some];rw[←hβ]at hk ⊢;exact hk) (ih hβ fun k hk=>h k (by simp only[bf];exact List.mem_append_right _ hk))
  |@own _ k _ _ _ _ _ _ _ _ _ hk h1 h2 h4 h3 _ ih=>
   intro h
   have:k<nx:=h k (by simp[bf,keys])
   exact .own (by simp only[this,if_true,Option.bind_some];rw[←hβ]at hk ⊢;exact hk) h1 h2 h4 h3 (ih hβ fun k hk=>h k (by simp only[bf];exact List.mem_append_right _ hk))
  |own0 h3 _ ih=>exact fun h=>.own0 h3 (ih hβ fun k hk=>h k (by simp only[bf];exact List.mem_append_right _ hk))
  |bF ha _ _ ih1 ih2=>exact fun h=>.bF ha (ih1 hβ fun k hk=>h k (by simp only[bf,keys,List.append_nil]at hk ⊢;exact List.mem_append_left _ hk)) (ih2 hβ fun k hk=>h k (by simp only[bf];exact List.mem_append_right _ hk))
  |func _ hc _ ih1 ih2=>exact fun h=>.func (ih1 hβ fun k hk=>h k (by simp only[bf,keys];exact List.mem_append_left _ hk)) hc (ih2 hβ fun k hk=>h k (by simp only[bf];exact List.mem_append_right _ hk))
 exact gen hc fun k h=>hk k (by rw[Fl]at h;exact h)
theorem M7 {nx:Nat}:∀{vs:List AV},iD nx vs=true→fm (fun k=>if k<nx then some k else none) vs vs
 |[],_=>trivial
 |v::vs,h=>by
  simp only[iD,List.all_cons,bf,List.all_append,Bool.and_eq_true,Bool.not_eq_true']at h
  obtain⟨⟨h1,h2⟩,h3,h4⟩:=h
  refine⟨⟨h1,Pb fun k hk=>by simpa using List.all_eq_true.1 h3 k hk⟩,M7 ?_⟩
  simp only[iD,Bool.and_eq_true]
  exact⟨h2,h4⟩
theorem mB {c:Ctx} {s':aI} {ls:List Nat} {vs:List AV} {os:aC} {nx:Nat} (hv:aY ls s'=some (vs,os)) (h0:∀k x,c.k0 k=some x→k<nx) (hok:iD nx vs=true) (ho:gm nx os):∃ρ,Le c ρ s' ⟨aB ls vs,os,nx⟩:=by
 unfold aY at hv
 simp only[Option.some.injEq,Prod.mk.injEq]at hv
 obtain⟨rfl,rfl⟩:=hv
 refine⟨fun k=>if k<nx then some k else none,?_,H6 (M7 hok),fun k2 o2 hk=>?_,fun k2 k1 hk=>?_,fun k x hk=>by simp[h0 k x hk]⟩
 ·intro a b k ha hb
  split at ha<;>split at hb<;>simp_all
 ·obtain⟨h1,h2⟩:=QG ho hk
  refine .inl ⟨k2,o2,by simp[h1],?_,⟨rfl,rfl,rfl,rfl,fun i hi=>Pb fun k hk=>by rw[h2 i hi]at hk;simp at hk⟩⟩
  rw[nc]at hk
  split at hk
  ·exact hk
  ·simp at hk
 ·split at hk
  ·assumption
  ·simp at hk
section rules
variable {P:Program} {c:Ctx} {nt:Nat} {s:aI} {Q:ak→aI→Prop} {T:Types} {Γ:aS}
theorem aq.gv {x y:Code} {i:Nat} (hx:x=.block i (.loop y)) (ls:List Nat) (nx:Nat) (h0:∀k x,c.k0 k=some x→k<nx) {α:Type} (vs:α→List AV) (os:α→aC) (hok:∀a,iD nx (vs a)=true) (ho:∀a,gm nx (os a)) (I:α→Prop) (μ:α→Nat) (j:α)
  (hv:aY ls s=some (vs j,os j)) (hI:I j)
  (round:∀j,I j→aq P c nt y ⟨aB ls (vs j),os j,nx⟩ (dm (fun s'=>∃k,aY ls s'=some (vs k,os k)∧I k∧μ k<μ j) (inBlock i Q))):aq P c nt x s Q:=
 aq.gQ hx (fun a=>⟨aB ls (vs a),os a,nx⟩) I μ j (mB hv h0 (hok j) (ho j)) hI fun j hj=>(round j hj).mono fun e s' h=>by
  cases e with
  |normal=>
   obtain⟨k,h1,h2,h3⟩:=h
   exact⟨k,mB h1 h0 (hok k) (ho k),h2,h3⟩
  |exit i=>exact h
  |ret=>exact h
theorem aq.jB {x:Code} {ls:List Nat} {nx:Nat} {vs:List AV} {os:aC} (hv:aY ls s=some (vs,os)) (h0:∀k x,c.k0 k=some x→k<nx) (hok:iD nx vs=true) (ho:gm nx os) (h:aq P c nt x ⟨aB ls vs,os,nx⟩ Q):aq P c nt x s Q:=
 .kK (mB hv h0 hok ho) h
theorem aD.jB {l:List Code} {ls:List Nat} {nx:Nat} {vs:List AV} {os:aC} (hv:aY ls s=some (vs,os)) (h0:∀k x,c.k0 k=some x→k<nx) (hl:l.isEmpty=false) (hok:iD nx vs=true) (ho:gm nx os) (h:aD P c nt l ⟨aB ls vs,os,nx⟩ Q):aD P c nt l s Q:=
 .weak hl (mB hv h0 hok ho) h
theorem aD.DH (hT:ec P T) (hΓ:aW P Γ) (hm:P.follows .mixedOrders=true) {fn:Func} {forks:List Nat} (n:Nat) {l:List Code} {ls:List Nat} {nx:Nat} {vs:List AV} {os:aC} (hv:aY ls s=some (vs,os)) (h0:∀k x,c.k0 k=some x→k<nx)
  (hok:iD nx vs=true) (ho:gm nx os) {t:aa (List AV)} (hc:bY T Γ forks n fn l ⟨aB ls vs,os,nx⟩=some t) (hd:(l.all fun x=>bT nt x)=true) (hl:l.isEmpty=false) {res:AV} (h:t.all fun _ us=>dI us res):aD P c nt l s (Fin T fn res):=
 .jB hv h0 hl hok ho (.fin hT hΓ hm n hc hd h)
theorem aD.eE (hT:ec P T) (hΓ:aW P Γ) (hm:P.follows .mixedOrders=true) {forks:List Nat} (n:Nat) {l:List Code} {ls:List Nat} {nx:Nat} {vs:List AV} {os:aC} (hv:aY ls s=some (vs,os)) (h0:∀k x,c.k0 k=some x→k<nx)
  (hok:iD nx vs=true) (ho:gm nx os) (ls2:List Nat) {t:aa (List AV×aC)} (hc:aJ T Γ forks n ls2 l ⟨aB ls vs,os,nx⟩=some t) (hd:(l.all fun x=>bT nt x)=true) (hl:l.isEmpty=false) (h:t.all fun e v=>∀s',aY ls2 s'=some v→Q e s'):aD P c nt l s Q:=
 .jB hv h0 hl hok ho (.bk hT hΓ hm n ls2 hc hd h)
theorem aq.eE (hT:ec P T) (hΓ:aW P Γ) (hm:P.follows .mixedOrders=true) {x:Code} {forks:List Nat} (n:Nat) {ls:List Nat} {nx:Nat} {vs:List AV} {os:aC} (hv:aY ls s=some (vs,os)) (h0:∀k x,c.k0 k=some x→k<nx)
  (hok:iD nx vs=true) (ho:gm nx os) (ls2:List Nat) {t:aa (List AV×aC)} (hc:aJ T Γ forks n ls2 [x] ⟨aB ls vs,os,nx⟩=some t) (hd:bT nt x=true) (h:t.all fun e v=>∀s',aY ls2 s'=some v→Q e s'):aq P c nt x s Q:=
 .jB hv h0 hok ho (.bk hT hΓ hm n ls2 hc hd h)
end rules
theorem tQ {T:Types} {fn:Func} {ls:List Nat} {vs us ws:List AV} {os ps pre:aC} {s':aI} {τ:Nat→Option Nat} {r:cU} (hv:aY ls s'=some (vs,os)) (hr:kH (aB ls vs) fn.results.toList=some us) (hle:fm τ us ws) (hres:r.res=kA ws)
  (he:ck (eF r.post) pre=ps) (ho:mS τ os ps):wN T fn τ pre r s':=by
 unfold aY at hv
 simp only[Option.some.injEq,Prod.mk.injEq]at hv
 obtain⟨rfl,rfl⟩:=hv
 refine⟨⟨us,[],ws,Ir hr,trivial,hle,hres⟩,fun k o hk=>?_⟩
 rw[he]at hk
 obtain⟨k1,o1,g1,g2,g3⟩:=Gg ho k o hk
 refine⟨k1,o1,g1,?_,g3⟩
 rw[nc]at g2
 split at g2
 ·exact g2
 ·simp at g2
def tG (g:Nat→List AV→Option cU):Spec:=fun K args pre=>match dS pre args with
 |some as=>g K as
 |none=>none
theorem Bo {P:Program} {f:FuncId} {g:Nat→List AV→Option cU} (h:∀K args r,bf args=[]→g K args=some r→aA P f K args [] r):
  ∀K args pre r,tG g K args pre=some r→aA P f K args pre r:=by
 intro K args pre r hg
 unfold tG at hg
 split at hg
 ·rename_i as has
  have hf:=h K as r (v9 has) hg
  intro need
  obtain⟨h1,h2⟩:=hf need
  refine⟨fun k o ho=>.inr ((h1 k o ho).resolve_left fun⟨o',h⟩=>by simp[look]at h),fun c D D' β w vs hw0 hMw hrel hD hK hv=>?_⟩
  have hv':bV (aM c pre β) w aZ as vs:=CY hrel (fun _ _ h=>h) has hv
  exact(hf.frame (pre':=pre) (fun k o hk=>by simp[look]at hk)).use need hrel (fun _ _ h=>h) hD hK (hv'.mono (fun b o h1 h2=>⟨h2,h1⟩) fun k x hx=>by simp[aZ]at hx)
 ·simp at hg
theorem FC {K k a:Nat} {pre:aC} (h:K≤k∧k<K+cq):tK [] K pre (aV [(k,a)]):=
 ⟨fun x y z hx hy=>by
  simp only[aV,look]at hx hy
  split at hx<;>split at hy<;>simp_all,fun x y hx=>by
  simp only[aV,look]at hx
  split at hx
  ·rename_i he
   have:k=x:=by simpa using he
   subst this
   exact .inr h
  ·simp at hx⟩
theorem sY {K k a:Nat} {pre:aC}:tK [(a,k)] K pre (aV [(k,a)]):=
 ⟨fun x y z hx hy=>by
  simp only[aV,look]at hx hy
  split at hx<;>split at hy<;>simp_all,fun x y hx=>by
  simp only[aV,look]at hx ⊢
  split at hx
  ·rename_i he
   have:k=x:=by simpa using he
   subst this
   simp only[Option.some.injEq]at hx
   subst hx
   exact .inl (by simp)
  ·simp at hx⟩
theorem jn {c:Ctx} (h:c.k0=aZ) {nx:Nat}:∀k x,c.k0 k=some x→k<nx:=fun k x hk=>by rw[h]at hk;simp[aZ]at hk
theorem dh {ls:List Nat} {s':aI} {vs us:List AV} {os ps:aC} (hv:aY ls s'=some (vs,os)) (h1:vs=us) (h2:os=ps):aY ls s'=some (us,ps):=by rw[hv,h1,h2]
end Go.Am

/- Rational numbers: signs, sizes, quotients of natural numbers. -/
namespace Go.Am
open AV
def fk (b:Bool) (n:Nat):Int:=if b then-(n:Int)else n
def sQ (b:Bool) (n d:Nat):Rat:=mkRat (fk b n) d
def cz (q:Rat):Nat:=max (bu q.num.natAbs) (bu q.den)
theorem Ef {b:Bool} {n:Nat}:(fk b n).natAbs=n:=by unfold fk;split<;>simp
theorem Xx {b:Bool}:fk b 0=0:=by unfold fk;split<;>simp
theorem adZ {b:Bool} {n g:Nat} (h:g∣n):fk b n/(g:Int)=fk b (n/g):=by
 unfold fk
 split
 ·rw[Int.neg_ediv_of_dvd (Int.natCast_dvd_natCast.2 h)];simp
 ·simp
theorem iu {q:Rat}:q<0↔q.num<0:=by rw[Rat.lt_iff];simp
theorem CP {b:Bool} {n d:Nat} (hd:d≠0):(sQ b n d).num=fk b (n/Nat.gcd n d):=by
 unfold sQ
 rw[Rat.num_mkRat,if_neg hd,Ef,Nat.gcd_comm,adZ (Nat.gcd_dvd_left n d)]
theorem Lc {b:Bool} {n d:Nat} (hd:d≠0):(sQ b n d).den=d/Nat.gcd n d:=by
 unfold sQ
 rw[Rat.den_mkRat,if_neg hd,Ef,Nat.gcd_comm]
theorem G5 {b:Bool} {d:Nat}:sQ b 0 d=0:=by unfold sQ;rw[Xx];simp
theorem UQ {b:Bool} {n d:Nat} (hn:n≠0) (hd:d≠0):decide (sQ b n d<0)=b:=by
 have h1:0<n/Nat.gcd n d:=Nat.div_pos (Nat.le_of_dvd (by omega) (Nat.gcd_dvd_left n d)) (Nat.gcd_pos_of_pos_left _ (by omega))
 cases b
 ·simp only[decide_eq_false_iff_not,iu,CP hd,fk];simp;omega
 ·simp only[decide_eq_true_eq,iu,CP hd,fk];simp;omega
theorem zA {q:Rat}:Sz q (cz q):=
 ⟨Nat.lt_of_lt_of_le (iH.1 (Nat.le_refl _)) (Nat.pow_le_pow_right (by omega) (Nat.le_max_left _ _)),Nat.lt_of_lt_of_le (iH.1 (Nat.le_refl _)) (Nat.pow_le_pow_right (by omega) (Nat.le_max_right _ _))⟩
theorem TG {q:Rat} {n:Nat}:Sz q n↔cz q≤n:=by
 unfold Sz cz
 rw[←iH,←iH];omega
theorem ew {q r:Rat} {n k:Nat} (h:q=r) (hs:Sz r k):bw (.rat q n) (.rat r k):=by
 subst h
 refine⟨rfl,fun M w cs hc=>?_⟩
 cases hc with
 |rat _ h1 h2 h3=>cases h3;exact .rat hs h1 h2 .nil
theorem Ed {b:Bool} {n d k:Nat} (hd:d≠0) (hn:n<2^k) (hdk:d<2^k):Sz (sQ b n d) k:=by
 refine⟨?_,?_⟩
 ·rw[CP hd,Ef];exact Nat.lt_of_le_of_lt (Nat.div_le_self _ _) hn
 ·rw[Lc hd];exact Nat.lt_of_le_of_lt (Nat.div_le_self _ _) hdk
theorem jR (q:Rat):sQ (decide (q<0)) q.num.natAbs q.den=q:=by
 unfold sQ
 have:fk (decide (q<0)) q.num.natAbs=q.num:=by
  unfold fk
  by_cases h:q<0
  ·have:=iu.1 h;simp[h];omega
  ·have:¬q.num<0:=fun h'=>h (iu.2 h')
   simp[h];omega
 rw[this,Rat.mkRat_self]
theorem uF {b:Bool} {x y n d k:Nat} (hn:n≠0) (hd:d≠0) (hx:x=n/Nat.gcd n d) (hy:y=if d/Nat.gcd n d=1 then 0 else d/Nat.gcd n d) (hs:Sz (sQ b n d) k):bw (.agg [.bool b,.mag x,.mag y]) (.rat (sQ b n d) k):=
 qR hs (UQ hn hd).symm (by rw[CP hd,Ef,hx]) (by rw[Lc hd,hy])
theorem lf {k:Nat}:bw (.agg [.bool false,.mag 0,.mag 0]) (.rat 0 (k+1)):=
 qR ⟨by simp[Nat.two_pow_pos],by simp⟩ (by decide) rfl rfl
section down
variable {P:Program} {c:Ctx} {nt:Nat} {s:aI} {Q:ak→aI→Prop} {T:Types}
def de (c:Ctx) (Q:ak→aI→Prop) (e:ak) (s':aI):Prop:=Q e s'∨∃s2 ρ,Le c ρ s' s2∧Q e s2
theorem aq.down {x:Code} (h:aq P c nt x s (de c Q)):aq P c nt x s Q:=by
 intro a w hr
 refine wpIn_mono (h a w hr) ?_
 rintro e a' w' ⟨ae,s',h1,h2,hq|⟨s2,ρ,hle,hq⟩⟩
 ·exact⟨ae,s',h1,h2,hq⟩
 ·exact⟨ae,s2,h1,hle.rel h2,hq⟩
theorem yt {fn:Func} {ls:List Nat} {vs:List AV} {os:aC} {nx:Nat} {s':aI} {e:ak} {t:aa (List AV)} {res:AV} (he:ji T fn e ⟨aB ls vs,os,nx⟩=some t) (hv:aY ls s'=some (vs,os)) (h0:∀k x,c.k0 k=some x→k<nx) (hok:iD nx vs=true) (ho:gm nx os)
  (h:t.all fun _ us=>dI us res):de c (Fin T fn res) e s':=by
 obtain⟨ρ,hle⟩:=mB hv h0 hok ho
 exact .inr ⟨_,ρ,hle,D4 he h⟩
theorem aD.jr (hT:ec P T) {Γ:aS} (hΓ:aW P Γ) (hm:P.follows .mixedOrders=true) {fn:Func} {forks:List Nat} (n:Nat) {l:List Code} {ls:List Nat} {nx:Nat} {vs:List AV} {os:aC} (hv:aY ls s=some (vs,os)) (h0:∀k x,c.k0 k=some x→k<nx)
  (hok:iD nx vs=true) (ho:gm nx os) {t:aa (List AV)} (hc:bY T Γ forks n fn l ⟨aB ls vs,os,nx⟩=some t) (hd:(l.all fun x=>bT nt x)=true) (hl:l.isEmpty=false) {res:AV} (h:t.all fun _ us=>dI us res):aD P c nt l s (de c (Fin T fn res)):=
 (aD.DH hT hΓ hm n hv h0 hok ho hc hd hl h).mono fun _ _ h=>.inl h
end down
theorem gk {P:Program} {T:Types} (hT:ec P T) {f:FuncId} {fn:Func} {x:Code} (hf:aP P f fn x) {args:List AV} {r:cU} (hk:bf args=[]) (hlen:args.length≤fn.ntmps) (hpost:r.post=[])
  (h:r.need→∀c:Ctx,(∀nx k x,c.k0 k=some x→k<nx)→aq P c fn.ntmps x ⟨aN 0 args,[],0⟩ (de c (Fin T fn r.res))) (K:Nat) (pre:aC):aA P f K args pre r:=
 ja hT hf hk hlen hpost (fun need c h0=>.down (h need c fun _=>jn h0)) K pre
mutual
/-- What is known of the sizes of numbers in values. -/
def Vj:AV→Prop
 |.rat q n=>Sz q n
 |.agg l=>tY l
 |_=>True
def tY:List AV→Prop
 |[]=>True
 |a::l=>Vj a∧tY l
end
theorem aL.sz {M:Nat→Prop} {w:World} {β:aR} {l:List AV} {cs:List Value} (h:aL M w β l cs):tY l:=by
 induction h with
 |nil=>trivial
 |rat hs _ _ _ _ _ ih=>exact⟨hs,ih⟩
 |agg _ _ ih1 ih2=>exact⟨ih1,ih2⟩
 |aj _ _ _ _ _ _ _ ih=>exact⟨trivial,ih⟩
 |dg _ _ _ _ _ _ _ _ ih=>exact⟨trivial,ih⟩
 |bg _ _ _ _ ih=>exact⟨trivial,ih⟩
 |func _ _ _ _ ih=>exact⟨trivial,ih⟩
 |bF _ _ _ _ ih=>exact⟨trivial,ih⟩
 |_=>rename_i ih;exact⟨trivial,ih⟩
theorem bV.sz {M:Nat→Prop} {w:World} {β:aR}:∀{l:List AV} {xs:List Value},bV M w β l xs→tY l
 |[],[],_=>trivial
 |a::l,x::xs,h=>by
  obtain⟨⟨cs,h1,_⟩,h2⟩:=h
  exact⟨h1.sz.1,h2.sz⟩
 |[],_::_,h=>h.elim
 |_::_,[],h=>h.elim
theorem Zi {P:Program} {f:FuncId} {K:Nat} {args:List AV} {pre:aC} {r:cU} (hp:∀k o,look k r.post=some o→(∃o',look k pre=some o')∨(K≤k∧k<K+cq)) (h:tY args→aA P f K args pre r):aA P f K args pre r:=
 fun need=>⟨hp,fun c D D' β w vs h1 h2 h3 h4 h5 hv=>(h hv.sz need).2 c D D' β w vs h1 h2 h3 h4 h5 hv⟩
theorem iC {P:Program} {f:FuncId} {K:Nat} {args:List AV} {pre:aC} {v:AV} {l:List Prop} (h:tY args→aA P f K args pre ⟨v,[],l⟩):aA P f K args pre ⟨v,[],l⟩:=
 Zi (fun k o hk=>by simp[look]at hk) h
theorem ju {N n:Nat} (h:N<2^n) (hn:n<2^44):nl N<2^40:=by
 have h1:N<2^(32*(n/32+1)):=Nat.lt_of_lt_of_le h (Nat.pow_le_pow_right (by omega) (by omega))
 have:=cT.2 h1
 omega
theorem agS {q:Rat}:(if q.den=1 then 0 else q.den)≤q.den:=by split<;>omega
theorem Sz.iJ {q:Rat} {n:Nat} (h:Sz q n) (hn:n<2^44):nl q.num.natAbs<2^40∧nl q.den<2^40∧nl (if q.den=1 then 0 else q.den)<2^40:=
 ⟨ju h.1 hn,ju h.2 hn,Nat.lt_of_le_of_lt (gz agS) (ju h.2 hn)⟩
theorem Sz.pos {q:Rat} {n:Nat} (h:Sz q n):0<n:=by
 rcases Nat.eq_zero_or_pos n with h1|h1
 ·subst h1;have:=h.2;have:=q.den_nz;omega
 ·exact h1
theorem Sz.more {q:Rat} {n m:Nat} (h:Sz q n) (hm:n≤m):Sz q m:=
 ⟨Nat.lt_of_lt_of_le h.1 (Nat.pow_le_pow_right (by omega) hm),Nat.lt_of_lt_of_le h.2 (Nat.pow_le_pow_right (by omega) hm)⟩
theorem Pr {a:Int} {d:Nat}:(mkRat a d).num.natAbs≤a.natAbs:=by
 rw[Rat.num_mkRat]
 split
 ·simp
 ·rw[Int.natAbs_ediv_of_dvd]
  ·exact Nat.div_le_self _ _
  ·exact Int.ofNat_dvd_left.2 (Nat.gcd_dvd_right _ _)
theorem Jf {a:Int} {d:Nat} (h:d≠0):(mkRat a d).den≤d:=by
 rw[Rat.den_mkRat,if_neg h]
 exact Nat.div_le_self _ _
theorem Sz.add {q r:Rat} {n m:Nat} (h:Sz q n) (h':Sz r m):Sz (q+r) (n+m+1):=by
 rw[Rat.add_def']
 have d0:q.den*r.den≠0:=Nat.mul_ne_zero q.den_nz r.den_nz
 have e:2^(n+m+1)=2^n*2^m+2^n*2^m:=by rw[Nat.pow_succ,Nat.pow_add];omega
 have b1:q.num.natAbs*r.den≤2^n*2^m:=Nat.mul_le_mul (Nat.le_of_lt h.1) (Nat.le_of_lt h'.2)
 have b2:r.num.natAbs*q.den<2^m*2^n:=Nat.mul_lt_mul'' h'.1 h.2
 have b3:q.den*r.den≤2^n*2^m:=Nat.mul_le_mul (Nat.le_of_lt h.2) (Nat.le_of_lt h'.2)
 have b4:0<2^n*2^m:=Nat.mul_pos (Nat.two_pow_pos _) (Nat.two_pow_pos _)
 rw[Nat.mul_comm (2^m)]at b2
 refine⟨Nat.lt_of_le_of_lt Pr ?_,Nat.lt_of_le_of_lt (Jf d0) (by omega)⟩
 have b5:=Int.natAbs_add_le (q.num*r.den) (r.num*q.den)
 rw[Int.natAbs_mul,Int.natAbs_mul,Int.natAbs_natCast,Int.natAbs_natCast]at b5
 omega
theorem Sz.neg {q:Rat} {n:Nat} (h:Sz q n):Sz (-q) n:=by
 refine⟨?_,?_⟩
 ·rw[Rat.neg_num,Int.natAbs_neg];exact h.1
 ·rw[Rat.neg_den];exact h.2
theorem Sz.sub {q r:Rat} {n m:Nat} (h:Sz q n) (h':Sz r m):Sz (q-r) (n+m+1):=by
 rw[Rat.sub_eq_add_neg];exact h.add h'.neg
theorem Sz.mul {q r:Rat} {n m:Nat} (h:Sz q n) (h':Sz r m):Sz (q*r) (n+m):=by
 rw[Rat.mul_def']
 have d0:q.den*r.den≠0:=Nat.mul_ne_zero q.den_nz r.den_nz
 refine⟨Nat.lt_of_le_of_lt Pr ?_,Nat.lt_of_le_of_lt (Jf d0) ?_⟩
 ·rw[Int.natAbs_mul,Nat.pow_add];exact Nat.mul_lt_mul'' h.1 h'.1
 ·rw[Nat.pow_add];exact Nat.mul_lt_mul'' h.2 h'.2
theorem Sz.inv {q:Rat} {n:Nat} (h:Sz q n):Sz q⁻¹ n:=by
 by_cases h0:q=0
 ·subst h0
  rw[Rat.inv_zero]
  exact h
 ·have hn:q.num≠0:=fun h=>h0 (Rat.num_eq_zero.1 h)
  refine⟨?_,?_⟩
  ·rw[Rat.num_inv,Int.natAbs_mul,Int.natAbs_natCast,Int.natAbs_sign_of_ne_zero hn,Nat.one_mul];exact h.2
  ·rw[Rat.den_inv,if_neg hn];exact h.1
theorem Sz.div {q r:Rat} {n m:Nat} (h:Sz q n) (h':Sz r m):Sz (q/r) (n+m):=by
 rw[Rat.div_def];exact h.mul h'.inv
def ey (q:Rat):Int:=if q<0 then-1 else if 0<q then 1 else 0
def dc (q r:Rat):Int:=if q<r then-1 else if r<q then 1 else 0
end Go.Am

/- aS of functions that are handed a pointer to an object and leave it changed. -/
namespace Go.Am
open AV
def B2 (T:Types) (fn:Func) (e:ak) (s:aI):Option (aa (List AV×Option ah)):=
 match ji T fn e s with
 |some t=>t.bind fun e us=>some (.leaf e (us,look 0 s.store))
 |none=>none
def ur (T:Types) (Γ:aS) (forks:List Nat) (n:Nat) (fn:Func) (x:Code) (s:aI):Option (aa (List AV×Option ah)):=
 match dB T Γ forks n x s with
 |some t=>t.bind (B2 T fn)
 |none=>none
theorem CA {P:Program} {T:Types} (hT:ec P T) {Γ:aS} (hΓ:aW P Γ) (hm:P.follows .mixedOrders=true) {f:FuncId} {fn:Func} {x:Code} (hf:aP P f fn x) {k idx es off:Nat} {p:List Nat} {rest:List AV} {o2 o o':ah} {res:AV} {l:List Prop}
  (hkr:bf rest=[]) (hrt:(rest.all fun v=>!v.isTuple)=true) (hlen:rest.length+1≤fn.ntmps) (ho:∀ρ,cJ ρ o2 o) {forks:List Nat} (n:Nat) {t:aa (List AV×Option ah)}
  (hc:ur T Γ forks n fn x ⟨aN 0 (.ptr 0 idx es off p::rest),[(0,o)],1⟩=some t)
  (h:ax l→t.all fun _ v=>dI v.1 res∧∃o1,v.2=some o1∧o1.row=false∧cJ (aV [(k,0)]) o1 o') (K:Nat):
  aA P f K (.ptr k idx es off p::rest) [(k,o2)] ⟨res,[(k,o')],l⟩:=by
 have hrest:∀{rest:List AV},bf rest=[]→(rest.all fun v=>!v.isTuple)=true→fm (aV [(0,k)]) rest rest:=by
  intro rest
  induction rest with
  |nil=>intro _ _;trivial
  |cons v r ih=>
   intro h1 h2
   simp only[bf,List.append_eq_nil_iff]at h1
   simp only[List.all_cons,Bool.and_eq_true,Bool.not_eq_true']at h2
   exact⟨⟨h2.1,aK h1.1⟩,ih h1.2 h2.2⟩
 refine nu hT hf (args0:=.ptr 0 idx es off p::rest) (pre0:=[(0,o)]) (nx:=1) [(0,k)] (by simpa using hlen) (by simp[gR]) ⟨⟨rfl,l5 rfl⟩,hrest hkr hrt⟩ ⟨⟨k,o2,rfl,by simp[look],ho _⟩,trivial⟩
  (fun a x h=>?_) (fun x o h=>.inl ?_) (fun need c h0=>?_)
 ·simp only[aV,look]at h
  split at h
  ·simp only[Option.some.injEq]at h;subst h;exact⟨_,by simp[look];rfl⟩
  ·simp at h
 ·simp only[look]at h
  split at h
  ·rename_i he
   exact⟨_,by simp only[look,he,if_true];rfl⟩
  ·simp at h
 have h:=h need
 unfold ur at hc
 cases hx:dB T Γ forks n x ⟨aN 0 (.ptr 0 idx es off p::rest),[(0,o)],1⟩with
 |none=>rw[hx]at hc;simp at hc
 |some u=>
  rw[hx]at hc
  refine jT hT hΓ hm n hf.dst hx (aa.eR ?_ (aa.jc hc h))
  rintro e s' ⟨v,h1,h2⟩
  unfold B2 at h1
  split at h1
  ·rename_i v' hv'
   have h3:=aa.jc h1 h2
   have h4:v'.all fun _ us=>dI us res∧∃o1,look 0 s'.store=some o1∧o1.row=false∧cJ (aV [(k,0)]) o1 o':=by
    refine aa.eR ?_ h3
    rintro e us ⟨w,g1,g2⟩
    simp only[Option.some.injEq]at g1
    subst g1
    exact g2
   have h5:Fin T fn res e s':=D4 hv' (aa.eR (fun _ _ h=>h.1) h4)
   have h6:∃o1,look 0 s'.store=some o1∧o1.row=false∧cJ (aV [(k,0)]) o1 o':=by
    have:∀{t:aa (List AV)},(t.all fun _ us=>dI us res∧∃o1,look 0 s'.store=some o1∧o1.row=false∧cJ (aV [(k,0)]) o1 o')→∃o1,look 0 s'.store=some o1∧o1.row=false∧cJ (aV [(k,0)]) o1 o':=by
     intro t
     induction t with
     |leaf e us=>exact fun h=>h.2
     |ag ps t ih=>exact fun h=>ih h.2
     |fork b t1 t2 ih1 ih2=>
      intro h
      cases b with
      |true=>exact ih1 (h.1 rfl)
      |false=>exact ih2 (h.2 rfl)
    exact this h4
   refine⟨h5.1,aV [(k,0)],sY,.inl ⟨h5.2,fun x ox hx=>?_⟩⟩
   obtain⟨o1,g1,g2,g3⟩:=h6
   have he:ck (eF [(k,o')]) [(k,o2)]=[(k,o')]:=by simp[ck,eF,put]
   rw[he]at hx
   simp only[look]at hx
   split at hx
   ·rename_i hk
    have:k=x:=by simpa using hk
    subst this
    simp only[Option.some.injEq]at hx
    subst hx
    exact⟨0,o1,by simp[aV,look],g1,g2,g3⟩
   ·simp at hx
  ·simp at h1
theorem afH {P:Program} {T:Types} (hT:ec P T) {Γ:aS} (hΓ:aW P Γ) (hm:P.follows .mixedOrders=true) {f:FuncId} {fn:Func} {x:Code} (hf:aP P f fn x) {args:List AV} {o o':ah} {a idx es off ls:Nat} {p:List Nat} {l:List Prop}
  (hka:bf args=[]) (hrt:(args.all fun v=>!v.isTuple)=true) (hlen:args.length≤fn.ntmps) (hres:fn.results.toList=[.tmp ls]) {forks:List Nat} (n:Nat) {e:ak} {q:List Prop}
  (hc:aJ T Γ forks n [ls] [x] ⟨aN 0 args,[],0⟩=some (.leaf e ([.ptr a idx es off p],[(a,o)])))
  (he:e=.normal∨e=.ret) (h:∀ρ,cJ ρ o o') (K:Nat):aA P f K args [] ⟨.ptr K idx es off p,[(K,o')],l⟩:=by
 have hrest:∀{rest:List AV},bf rest=[]→(rest.all fun v=>!v.isTuple)=true→fm (aV []) rest rest:=by
  intro rest
  induction rest with
  |nil=>intro _ _;trivial
  |cons v r ih=>
   intro h1 h2
   simp only[bf,List.append_eq_nil_iff]at h1
   simp only[List.all_cons,Bool.and_eq_true,Bool.not_eq_true']at h2
   exact⟨⟨h2.1,aK h1.1⟩,ih h1.2 h2.2⟩
 refine nu hT hf (args0:=args) (pre0:=[]) (nx:=0) [] hlen rfl (hrest hka hrt) trivial (fun a k h=>by simp[aV,look]at h) (fun k o h=>?_) (fun _ c h0=>?_)
 ·simp only[look]at h
  split at h
  ·rename_i he
   have:K=k:=by simpa using he
   subst this
   exact .inr ⟨Nat.le_refl _,by unfold cq;omega⟩
  ·simp at h
 refine aq.bk hT hΓ hm n [ls] hc hf.dst fun s' hv=>⟨he,aV [(K,a)],FC ⟨Nat.le_refl _,by unfold cq;omega⟩,.inr ?_⟩
 refine tQ (us:=[.ptr a idx es off p]) (ws:=[.ptr K idx es off p]) (ps:=[(K,o')]) hv ?_ ⟨⟨rfl,l5 (by simp[aV,look])⟩,trivial⟩ rfl rfl ⟨⟨a,_,by simp[aV,look],by simp[look],h _⟩,trivial⟩
 rw[hres]
 simp only[kH,aB,look,beq_self_eq_true,if_true]
 rfl
end Go.Am

/- aS that the evaluator itself writes: of functions that only read, without a loop of unknown length. -/
namespace Go.Am
open AV
mutual
/-- One of two values, by a condition that is not known. -/
def dO (b:Bool):AV→AV→Option AV
 |.rat q n,.rat r m=>some (.rat (cond b q r) (max n m))
 |.int k x,.int j y=>match isKind k j with
  |true=>some (.int k (cond b x y))
  |false=>none
 |.bool x,.bool y=>some (.bool (cond b x y))
 |.aj e n f,.aj e' m g=>match e==e' with
  |true=>some (.aj e (cond b n m) fun i=>cond b (f i) (g i))
  |false=>none
 |.nil,.nil=>some .nil
 |.nil,.aj e n f=>match Nat.blt 0 e with
  |true=>some (.aj e (cond b 0 n) f)
  |false=>none
 |.aj e n f,.nil=>match Nat.blt 0 e with
  |true=>some (.aj e (cond b n 0) f)
  |false=>none
 |.agg l,.agg m=>match nK b l m with
  |some x=>some (.agg x)
  |none=>none
 |_,_=>none
def nK (b:Bool):List AV→List AV→Option (List AV)
 |[],[]=>some []
 |u::l,v::m=>match dO b u v,nK b l m with
  |some x,some y=>some (x::y)
  |_,_=>none
 |_,_=>none
end
mutual
theorem aeU:∀{u v x:AV},dO true u v=some x→bw u x
 |.rat q n,v,x,h=>by
  cases v<;>simp only[dO,Option.some.injEq,reduceCtorEq]at h
  subst h;exact fe (Nat.le_max_left ..)
 |.int k a,v,x,h=>by
  cases v<;>simp only[dO,reduceCtorEq]at h
  split at h
  ·simp only[Option.some.injEq]at h;subst h;exact .refl _
  ·simp at h
 |.bool a,v,x,h=>by
  cases v<;>simp only[dO,Option.some.injEq,reduceCtorEq]at h
  subst h;exact .refl _
 |.aj e n f,v,x,h=>by
  cases v<;>simp only[dO,reduceCtorEq]at h
  ·split at h
   ·simp only[Option.some.injEq]at h;subst h;exact .refl _
   ·simp at h
  ·split at h
   ·simp only[Option.some.injEq]at h;subst h;exact .refl _
   ·simp at h
 |.nil,v,x,h=>by
  cases v<;>simp only[dO,Option.some.injEq,reduceCtorEq]at h
  ·split at h
   ·rename_i he
    simp only[Option.some.injEq]at h;subst h
    exact kS (by rw[Nat.blt_eq]at he;exact he)
   ·simp at h
  ·subst h;exact .refl _
 |.agg l,v,x,h=>by
  cases v<;>simp only[dO,reduceCtorEq]at h
  split at h
  ·rename_i hl
   simp only[Option.some.injEq]at h;subst h;exact cB (GV hl)
  ·simp at h
 |.mag _,v,x,h=>by simp[dO]at h
 |.dg _ _ _ _,v,x,h=>by simp[dO]at h
 |.void,v,x,h=>by simp[dO]at h
 |.str _,v,x,h=>by simp[dO]at h
 |.bg _,v,x,h=>by simp[dO]at h
 |.ptr _ _ _ _ _,v,x,h=>by simp[dO]at h
 |.own _ _ _ _,v,x,h=>by simp[dO]at h
 |.func _ _,v,x,h=>by simp[dO]at h
 |.tuple _,v,x,h=>by simp[dO]at h
 |.bF _ _,v,x,h=>by simp[dO]at h
theorem GV:∀{u v x:List AV},nK true u v=some x→eC u x
 |[],v,x,h=>by
  cases v<;>simp only[nK,Option.some.injEq,reduceCtorEq]at h
  subst h;trivial
 |a::l,v,x,h=>by
  cases v<;>simp only[nK,reduceCtorEq]at h
  split at h
  ·rename_i h1 h2
   simp only[Option.some.injEq]at h;subst h;exact⟨aeU h1,GV h2⟩
  ·simp at h
end
mutual
theorem acJ:∀{u v x:AV},dO false u v=some x→bw v x
 |.rat q n,v,x,h=>by
  cases v<;>simp only[dO,Option.some.injEq,reduceCtorEq]at h
  subst h;exact fe (Nat.le_max_right ..)
 |.int k a,v,x,h=>by
  cases v<;>simp only[dO,reduceCtorEq]at h
  split at h
  ·rename_i hk
   have:=C9 hk
   subst this
   simp only[Option.some.injEq]at h;subst h;exact .refl _
  ·simp at h
 |.bool a,v,x,h=>by
  cases v<;>simp only[dO,Option.some.injEq,reduceCtorEq]at h
  subst h;exact .refl _
 |.aj e n f,v,x,h=>by
  cases v<;>simp only[dO,reduceCtorEq]at h
  ·split at h
   ·rename_i hk
    have:=eq_of_beq hk
    subst this
    simp only[Option.some.injEq]at h;subst h;exact .refl _
   ·simp at h
  ·split at h
   ·rename_i he
    simp only[Option.some.injEq]at h;subst h
    exact kS (by rw[Nat.blt_eq]at he;exact he)
   ·simp at h
 |.nil,v,x,h=>by
  cases v<;>simp only[dO,Option.some.injEq,reduceCtorEq]at h
  ·split at h
   ·simp only[Option.some.injEq]at h;subst h;exact .refl _
   ·simp at h
  ·subst h;exact .refl _
 |.agg l,v,x,h=>by
  cases v<;>simp only[dO,reduceCtorEq]at h
  split at h
  ·rename_i hl
   simp only[Option.some.injEq]at h;subst h;exact cB (EC hl)
  ·simp at h
 |.mag _,v,x,h=>by simp[dO]at h
 |.dg _ _ _ _,v,x,h=>by simp[dO]at h
 |.void,v,x,h=>by simp[dO]at h
 |.str _,v,x,h=>by simp[dO]at h
 |.bg _,v,x,h=>by simp[dO]at h
 |.ptr _ _ _ _ _,v,x,h=>by simp[dO]at h
 |.own _ _ _ _,v,x,h=>by simp[dO]at h
 |.func _ _,v,x,h=>by simp[dO]at h
 |.tuple _,v,x,h=>by simp[dO]at h
 |.bF _ _,v,x,h=>by simp[dO]at h
theorem EC:∀{u v x:List AV},nK false u v=some x→eC v x
 |[],v,x,h=>by
  cases v<;>simp only[nK,Option.some.injEq,reduceCtorEq]at h
  subst h;trivial
 |a::l,v,x,h=>by
  cases v<;>simp only[nK,reduceCtorEq]at h
  split at h
  ·rename_i h1 h2
   simp only[Option.some.injEq]at h;subst h;exact⟨acJ h1,EC h2⟩
  ·simp at h
end
theorem eC.trans:∀{a b c:List AV},eC a b→eC b c→eC a c
 |[],[],[],_,_=>trivial
 |_::_,_::_,_::_,h,h'=>⟨h.1.trans h'.1,h.2.trans h'.2⟩
 |[],[],_::_,_,h=>h.elim
 |[],_::_,_,h,_=>h.elim
 |_::_,[],_,h,_=>h.elim
 |_::_,_::_,[],_,h=>h.elim
def oK:aa (List AV)→Option (List AV×List Prop)
 |.leaf _ us=>some (us,[])
 |.ag ps t=>match oK t with
  |some (us,qs)=>some (us,ps++qs)
  |none=>none
 |.fork b t u=>match oK t,oK u with
  |some (x,p),some (y,q)=>match nK b x y with
   |some z=>match p,q with
    |[],[]=>some (z,[])
    |p,q=>some (z,[b=true→ax p,b=false→ax q])
   |none=>none
  |_,_=>none
theorem AZ:∀{t:aa (List AV)} {us:List AV} {ps:List Prop},oK t=some (us,ps)→ax ps→t.all fun _ vs=>eC vs us
 |.leaf e vs,us,ps,h,_=>by
  simp only[oK,Option.some.injEq,Prod.mk.injEq]at h
  obtain⟨rfl,rfl⟩:=h
  exact .refl _
 |.ag l t,us,ps,h,hp=>by
  simp only[oK]at h
  split at h
  ·rename_i h1
   simp only[Option.some.injEq,Prod.mk.injEq]at h
   obtain⟨rfl,rfl⟩:=h
   obtain⟨p1,p2⟩:=er.1 hp
   exact⟨p1,AZ h1 p2⟩
  ·simp at h
 |.fork b t u,us,ps,h,hp=>by
  simp only[oK]at h
  split at h
  ·rename_i x p y q h1 h2
   split at h
   ·rename_i z hz
    have key:us=z∧(b=true→ax p)∧(b=false→ax q):=by
     split at h
     ·simp only[Option.some.injEq,Prod.mk.injEq]at h
      exact⟨h.1.symm,fun _=>trivial,fun _=>trivial⟩
     ·simp only[Option.some.injEq,Prod.mk.injEq]at h
      obtain⟨rfl,rfl⟩:=h
      exact⟨rfl,hp⟩
    obtain⟨rfl,p1,p2⟩:=key
    refine⟨fun hb=>?_,fun hb=>?_⟩
    ·subst hb
     exact aa.eR (fun _ vs hv=>hv.trans (GV hz)) (AZ h1 (p1 rfl))
    ·subst hb
     exact aa.eR (fun _ vs hv=>hv.trans (EC hz)) (AZ h2 (p2 rfl))
   ·simp at h
  ·simp at h
def kX (T:Types) (Γ:aS) (forks:List Nat) (fuel:Nat) (fn:Func):Spec:=bE fun args=>
 match Nat.ble args.length fn.ntmps with
 |true=>match bC T Γ forks fuel fn (au fn) ⟨aN 0 args,[],0⟩with
  |some t=>match oK t with
   |some (us,ps)=>match us with
    |[u]=>some ⟨u,[],ps⟩
    |us=>some ⟨.tuple us,[],ps⟩
   |none=>none
  |none=>none
 |false=>none
theorem QY {us:List AV} {v:AV} (h:eC us [v]):dI us v:=by
 match us,h with
 |[u],h=>exact h.1
theorem adn {us vs:List AV} (hv:∀u,vs≠[u]) (h:eC us vs):dI us (.tuple vs):=by
 match us,vs,h with
 |[],[],h=>exact h
 |[u],[v],h=>exact absurd rfl (hv v)
 |a::b::l,_::_::_,h=>exact h
 |[u],_::_::_,h=>exact absurd h.2 (by simp[eC])
 |a::b::l,[v],h=>exact absurd h.2 (by simp[eC])
 |[],_::_,h=>exact h.elim
 |_::_,[],h=>exact h.elim
theorem mE {P:Program} {T:Types} (hT:ec P T) {Γ:aS} (hΓ:aW P Γ) (hm:P.follows .mixedOrders=true) {f:FuncId} {fn:Func} (hf:aP P f fn (au fn)) (forks:List Nat) (fuel:Nat):
  ∀K args pre r,kX T Γ forks fuel fn K args pre=some r→aA P f K args pre r:=by
 refine bX fun K args r hk hs hp=>?_
 split at hs
 ·rename_i hlen
  have hlen:=Nat.le_of_ble_eq_true hlen
  split at hs
  ·rename_i t ht
   split at hs
   ·rename_i us ps hc
    split at hs
    ·simp only[Option.some.injEq]at hs
     subst hs
     exact bJ (r:=⟨_,[],ps⟩) hT hΓ hm hf hk hlen rfl fuel ht (fun hn=>aa.eR (fun _ vs hv=>QY hv) (AZ hc hn)) K []
    ·rename_i hne
     simp only[Option.some.injEq]at hs
     subst hs
     exact bJ (r:=⟨_,[],ps⟩) hT hΓ hm hf hk hlen rfl fuel ht (fun hn=>aa.eR (fun _ vs hv=>adn hne hv) (AZ hc hn)) K []
   ·simp at hs
  ·simp at hs
 ·simp at hs
theorem mT {P:Program} {Γ:aS} (h:aW P Γ):aW P (sG::Γ):=aH (fun K args pre r hs=>by simp at hs) h
theorem cL {P:Program} {Γ:aS} (h:aW P Γ):aW P (nG::Γ):=aH (fun K args pre r hs=>by simp at hs) h
end Go.Am

/- Loops whose objects get other keys in each round: states up to the names of objects. -/
namespace Go.Am
open AV
def mC (rl:List (Nat×Nat)):AV→AV
 |.ptr k i e o p=>match look k rl with
  |some j=>.ptr j i e o p
  |none=>.void
 |.own k e s n=>match look k rl with
  |some j=>.own j e s n
  |none=>match s,n,e with
   |0,0,_+1=>.nil
   |_,_,_=>.void
 |.bF c (.own k e s n)=>match look k rl with
  |some j=>.bF c (.own j e s n)
  |none=>.void
 |v=>v
def lS (rl:List (Nat×Nat)):AV→Bool
 |.ptr k _ _ _ _=>(look k rl).isSome
 |.own k e s n=>(look k rl).isSome||match s,n,e with
  |0,0,_+1=>true
  |_,_,_=>false
 |.tuple _=>false
 |.bF _ (.own k _ _ _)=>(look k rl).isSome
 |v=>(keys v).isEmpty
theorem ad2 {ρ:Nat→Option Nat} {c c2:Nat} {u v:AV} (hc:c=c2) (hv:v.isAgg=false) (h:fX ρ u v):fX ρ (.bF c u) (.bF c2 v):=by
 subst hc
 refine⟨rfl,fun M w β cs hcs=>?_⟩
 cases hcs with
 |bF _ h1 h2=>cases h2;exact .bF hv (h.2 _ _ _ _ h1) .nil
theorem K3 {rl:List (Nat×Nat)} {u v:AV} (hu:u=mC rl v) (hv:lS rl v=true):u.isTuple=false∧fX (aV rl) u v:=by
 subst hu
 cases v with
 |ptr k i e o p=>
  simp only[lS,Option.isSome_iff_exists]at hv
  obtain⟨j,hj⟩:=hv
  simp only[mC,hj]
  exact⟨rfl,l5 hj⟩
 |own k e s n=>
  simp only[lS]at hv
  cases hj:look k rl with
  |some j=>
   simp only[mC,hj]
   exact⟨rfl,cV hj rfl rfl⟩
  |none=>
   rw[hj]at hv
   simp only[Option.isSome_none,Bool.false_or]at hv
   split at hv
   ·simp only[mC,hj]
    exact⟨rfl,oW (by omega)⟩
   ·simp at hv
 |tuple l=>simp[lS]at hv
 |bF c v=>
  cases v with
  |own k e s n=>
   simp only[lS,Option.isSome_iff_exists]at hv
   obtain⟨j,hj⟩:=hv
   simp only[mC,hj]
   exact⟨rfl,ad2 rfl rfl (cV hj rfl rfl)⟩
  |_=>
   simp only[lS,List.isEmpty_iff]at hv
   exact⟨rfl,aK hv⟩
 |_=>
  simp only[lS,List.isEmpty_iff]at hv
  exact⟨rfl,aK hv⟩
theorem MR {rl:List (Nat×Nat)}:∀{vs us:List AV},us=vs.map (mC rl)→vs.all (lS rl)=true→fm (aV rl) us vs
 |[],_,h,_=>by subst h;trivial
 |v::vs,_,h,hv=>by
  subst h
  simp only[List.all_cons,Bool.and_eq_true]at hv
  exact⟨K3 rfl hv.1,MR rfl hv.2⟩
def pZ:AV→Bool
 |.tuple _=>false
 |v=>(keys v).isEmpty
theorem ajp {rl:List (Nat×Nat)} {v:AV} (h:pZ v=true):mC rl v=v:=by
 cases v with
 |bF c v=>cases v<;>first|rfl|simp[pZ,keys]at h
 |_=>first|rfl|simp[pZ,keys]at h
theorem UE {rl:List (Nat×Nat)} {v:AV} (h:pZ v=true):lS rl v=true:=by
 cases v with
 |bF c v=>cases v<;>first|exact h|simp[pZ,keys]at h
 |_=>first|exact h|simp[pZ,keys]at h
end Go.Am

/- Functions with one loop, by what the evaluator says of its parts. -/
namespace Go.Am
open AV
def fz (rl:List (Nat×Nat)) (u v:AV):Prop:=((lS rl v=true∧u=mC rl v)∨∃us vs,u=.agg us∧v=.agg vs∧fm (aV rl) us vs)∨(keys u=[]∧bw u v)
theorem NS {ρ:Nat→Option Nat} {M:Nat→Prop} {w:World} {β:aR}:∀{us vs:List AV} {cs:List Value},fm ρ us vs→aL M w β us cs→aL M w (fun k=>(ρ k).bind β) vs cs
 |[],[],_,_,h=>by cases h;exact .nil
 |u::us,v::vs,cs,hl,h=>by
  obtain⟨c1,c2,rfl,h1,h2⟩:=h.split
  exact(hl.1.2.2 M w β c1 h1).cons (NS hl.2 h2)
 |[],_::_,_,h,_=>h.elim
 |_::_,[],_,h,_=>h.elim
theorem Zp {ρ:Nat→Option Nat} {us vs:List AV} (h:fm ρ us vs):fX ρ (.agg us) (.agg vs):=by
 refine⟨rfl,fun M w β cs hc=>?_⟩
 cases hc with
 |agg h1 h2=>cases h2;exact .agg (NS h h1) .nil
theorem kP {rl:List (Nat×Nat)} {us vs:List AV} (h:fm (aV rl) us vs):fz rl (.agg us) (.agg vs):=.inl (.inr ⟨_,_,rfl,rfl,h⟩)
theorem fz.le {rl:List (Nat×Nat)} {u v:AV} (h:fz rl u v):fX (aV rl) u v:=by
 rcases h with(h|⟨us,vs,rfl,rfl,h⟩)|h
 ·exact(K3 h.2 h.1).2
 ·exact Zp h
 ·exact mF h.1 h.2
def jm (nx:Nat) (rl:List (Nat×Nat)) (os:aC):aC→Prop
 |[]=>True
 |(k2,o2)::ps=>((look k2 rl=none∧tW o2∧k2<nx)∨∃k1 o1,look k2 rl=some k1∧look k1 os=some o1∧o1.row=o2.row∧o1.wr=o2.wr∧o1.es=o2.es∧o1.len=o2.len∧∀i,i<o2.len→fz rl (o1.f i) (o2.f i))∧jm nx rl os ps
theorem H7 {nx:Nat} {rl:List (Nat×Nat)} {os:aC}:∀{ps:aC},jm nx rl os ps→xA nx (aV rl) os ps
 |[],_=>trivial
 |(k2,o2)::ps,h=>by
  obtain⟨h|⟨k1,o1,h1,h2,h3,h4,h5,h6,h7⟩,h8⟩:=h
  ·exact⟨.inr h,H7 h8⟩
  ·exact⟨.inl ⟨k1,o1,h1,h2,⟨h3.symm▸rfl,h4.symm▸rfl,h5.symm▸rfl,h6.symm▸rfl,fun i hi=>(h7 i (h6▸hi)).le⟩⟩,H7 h8⟩
theorem aE {rl:List (Nat×Nat)} {u v:AV} (hk:keys u=[]) (h:u=v):fz rl u v:=.inr ⟨hk,h▸.refl _⟩
theorem bB {nx:Nat} {rl:List (Nat×Nat)} {os ps:aC} {k2 k1:Nat} {r w:Bool} {es n m:Nat} {f g:Nat→AV} (hk:look k2 rl=some k1) (ho:look k1 os=some ⟨r,w,es,n,f⟩) (hn:n=m) (h:∀i,i<m→fz rl (f i) (g i))
  (hs:jm nx rl os ps):jm nx rl os ((k2,⟨r,w,es,m,g⟩)::ps):=⟨.inr ⟨k1,_,hk,ho,rfl,rfl,rfl,hn,h⟩,hs⟩
theorem aF {nx:Nat} {rl:List (Nat×Nat)} {os ps:aC} {k2 k1:Nat} {r w:Bool} {es:Nat} {f g:Nat→AV} (hk:look k2 rl=some k1) (ho:look k1 os=some ⟨r,w,es,1,f⟩) (h:fz rl (f 0) (g 0))
  (hs:jm nx rl os ps):jm nx rl os ((k2,⟨r,w,es,1,g⟩)::ps):=bB hk ho rfl (fun i hi=>by rw[Nat.lt_one_iff.1 hi];exact h) hs
theorem nT {nx:Nat} {rl:List (Nat×Nat)} {os ps:aC} {k2 es:Nat} {w:Bool} {f:Nat→AV} (hk:look k2 rl=none) (hes:0<es) (hn:k2<nx) (hs:jm nx rl os ps):jm nx rl os ((k2,⟨true,w,es,0,f⟩)::ps):=⟨.inl ⟨hk,⟨rfl,rfl,hes⟩,hn⟩,hs⟩
theorem tM {α:Type} {k:Nat} {a:α} {l:List (Nat×α)}:look k ((k,a)::l)=some a:=by simp[look]
theorem Hj {α:Type} {j k:Nat} {b:α} {l:List (Nat×α)} (h:(j==k)=false):look k ((j,b)::l)=look k l:=by simp[look,h]
theorem Pm {α:Type} {k:Nat} {b:List (Nat×α)}:∀{a:List (Nat×α)},look k (a++b)=match look k a with
  |some x=>some x
  |none=>look k b
 |[]=>rfl
 |(j,x)::a=>by
  simp only[List.cons_append,look]
  split
  ·rfl
  ·exact Pm
theorem sO {P:Program} {a b:aS} (ha:aW P a) (hb:aW P b):aW P (a++b):=by
 intro f s hl
 have hl:look f (a++b)=some s:=hl
 rw[Pm]at hl
 split at hl
 ·rename_i h
  simp only[Option.some.injEq]at hl
  subst hl
  exact ha f _ h
 ·exact hb f s hl
def Kept (kp:List Nat) (c:Ctx):Prop:=∀k x,c.k0 k=some x→k∈kp
theorem nP {c:Ctx} (h0:∀nx k x,c.k0 k=some x→k<nx):Kept [] c:=fun k x hk=>absurd (h0 0 k x hk) (by omega)
def dN (kp:List Nat) (v:List AV×aC) (vs:List AV) (os:aC) (nx:Nat):Prop:=
 ∃rl,(gR nx rl&&kp.all fun k=>look k rl==some k)=true∧v.1=vs.map (mC rl)∧vs.all (lS rl)=true∧jm nx rl v.2 os
theorem dN.le {kp:List Nat} {c:Ctx} {s':aI} {ls:List Nat} {v:List AV×aC} {vs:List AV} {os:aC} {nx:Nat} (h:dN kp v vs os nx) (hv:aY ls s'=some v) (h0:Kept kp c):∃ρ,Le c ρ s' ⟨aB ls vs,os,nx⟩:=by
 obtain⟨rl,h1,h2,h3,h4⟩:=h
 simp only[Bool.and_eq_true]at h1
 exact PS rl hv (fun k x hk=>by simpa using List.all_eq_true.1 h1.2 k (h0 k x hk)) h1.1 (MR h2 h3) (H7 h4)
theorem dN.vals {vs:List AV} {nx:Nat} (h:vs.all pZ=true):dN [] (vs,[]) vs [] nx:=by
 simp only[List.all_eq_true]at h
 refine⟨[],rfl,?_,List.all_eq_true.2 fun v hv=>UE (h v hv),trivial⟩
 have:vs.map (mC [])=vs.map id:=List.map_congr_left fun v hv=>ajp (h v hv)
 rw[this,List.map_id]
theorem nM {nt:Nat}:∀{x:Code} {p:List Nat},bT nt x=true→(before x p).all (fun x=>bT nt x)=true
 |.seq x y,0::p,h=>by
  simp only[bT,Bool.and_eq_true]at h
  exact nM (x:=x) h.1
 |.seq x y,(n+1)::p,h=>by
  simp only[bT,Bool.and_eq_true]at h
  simp only[before,List.all_cons,Bool.and_eq_true]
  exact⟨h.1,nM (x:=y) h.2⟩
 |.seq _ _,[],_|.cond _ _ _,_,_|.block _ _,_,_|.loop _,_,_|.region _ _ _,_,_|.skip,_,_|.label _,_,_|.exit _,_,_|.ret,_,_|.scope _,_,_|.goto _,_,_|.refuse _,_,_|.rangeFunc _ _ _ _,_,_=>by simp[before]
theorem AL {nt:Nat}:∀{x:Code} {p:List Nat},bT nt x=true→(behind x p).all (fun x=>bT nt x)=true
 |.seq x y,0::p,h=>by
  simp only[bT,Bool.and_eq_true]at h
  simp only[behind,List.all_append,List.all_cons,List.all_nil,Bool.and_true,Bool.and_eq_true]
  exact⟨AL (x:=x) h.1,h.2⟩
 |.seq x y,(n+1)::p,h=>by
  simp only[bT,Bool.and_eq_true]at h
  exact AL (x:=y) (p:=p) h.2
 |.seq _ _,[],_|.cond _ _ _,_,_|.block _ _,_,_|.loop _,_,_|.region _ _ _,_,_|.skip,_,_|.label _,_,_|.exit _,_,_|.ret,_,_|.scope _,_,_|.goto _,_,_|.refuse _,_,_|.rangeFunc _ _ _ _,_,_=>by simp[behind]
theorem vR {nt:Nat}:∀{x:Code} {p:List Nat},chain x p=true→bT nt x=true→bT nt (part x p)=true
 |x,[],_,h=>by cases x<;>exact h
 |.seq x y,0::p,hc,h=>by
  simp only[bT,Bool.and_eq_true]at h
  exact vR (x:=x) hc h.1
 |.seq x y,(n+1)::p,hc,h=>by
  simp only[bT,Bool.and_eq_true]at h
  exact vR (x:=y) hc h.2
 |.cond _ _ _,_::_,hc,_|.block _ _,_::_,hc,_|.loop _,_::_,hc,_|.region _ _ _,_::_,hc,_|.skip,_::_,hc,_|.label _,_::_,hc,_|.exit _,_::_,hc,_|.ret,_::_,hc,_|.scope _,_::_,hc,_|.goto _,_::_,hc,_|.refuse _,_::_,hc,_|.rangeFunc _ _ _ _,_::_,hc,_=>by simp[chain]at hc
section rules
variable {P:Program} {c:Ctx} {nt:Nat} {s:aI} {Q:ak→aI→Prop} {T:Types} (hT:ec P T) {Γ:aS} (hΓ:aW P Γ) (hm:P.follows .mixedOrders=true)
def Round (kp:List Nat) {α:Type} (V:α→List AV) (O:α→aC) (nx:Nat) (I D:α→Prop) (μ:α→Nat) (i:Nat) (R:List AV×aC→Prop) (a:α):ak→List AV×aC→Prop
 |.normal,v=>∃b,I b∧μ b<μ a∧dN kp v (V b) (O b) nx
 |.exit k,v=>k=i∧∃b,D b∧dN kp v (V b) (O b) nx
 |.ret,v=>R v
include hT hΓ hm in
theorem aq.adQ {x y:Code} {i:Nat} (hx:x=.block i (.loop y)) {kp:List Nat} (h0:Kept kp c) {forks:List Nat} (n:Nat) (L:List Nat) (nx:Nat) {α:Type} (V:α→List AV) (O:α→aC) (I D:α→Prop) (μ:α→Nat) (R:List AV×aC→Prop)
  (a0:α) (hI:I a0) (hs:∃ρ,Le c ρ s ⟨aB L (V a0),O a0,nx⟩) (hd:bT nt y=true)
  (hb:∀a,I a→∃t,aJ T Γ forks n L [y] ⟨aB L (V a),O a,nx⟩=some t∧t.all (Round kp V O nx I D μ i R a))
  (hD:∀b s',D b→(∃ρ,Le c ρ s' ⟨aB L (V b),O b,nx⟩)→Q .normal s') (hR:∀v s',R v→aY L s'=some v→Q .ret s'):aq P c nt x s Q:=by
 refine aq.gQ hx (fun a=>⟨aB L (V a),O a,nx⟩) I μ a0 hs hI fun a ha=>?_
 obtain⟨t,h1,h2⟩:=hb a ha
 refine aq.bk hT hΓ hm n L h1 hd (aa.eR ?_ h2)
 rintro e v hv s' hs'
 cases e with
 |normal=>
  obtain⟨b,g1,g2,g3⟩:=hv
  exact⟨b,g3.le hs' h0,g1,g2⟩
 |exit k=>
  obtain⟨rfl,b,g1,g2⟩:=hv
  exact Ee (hD b s' g1 (g2.le hs' h0))
 |ret=>exact hR v s' hv hs'
theorem aD.one {x:Code} (h:aq P c nt x s Q):aD P c nt [x] s Q:=h.mono fun e s' h=>by cases e<;>exact h
theorem aq.jK {x:Code} (h:aD P c nt [x] s Q):aq P c nt x s Q:=aq.mono h fun e s' h=>by cases e<;>exact h
def Start (kp:List Nat) {α:Type} (V:α→List AV) (O:α→aC) (nx:Nat) (I:α→Prop) (R:List AV×aC→Prop):ak→List AV×aC→Prop
 |.normal,v=>∃a,I a∧dN kp v (V a) (O a) nx
 |.ret,v=>R v
 |.exit _,_=>False
include hT hΓ hm in
theorem aq.Ai {x y:Code} (p:List Nat) {i:Nat} (hc:chain x p=true) (hx:part x p=.block i (.loop y)) (hd:bT nt x=true) {kp:List Nat} (h0:Kept kp c) {f1 f2:List Nat} (n:Nat) (L:List Nat) (nx:Nat) {α:Type} (V:α→List AV) (O:α→aC) (I D:α→Prop) (μ:α→Nat) (R:List AV×aC→Prop)
  (hp:∃t,aJ T Γ f1 n L (before x p) s=some t∧t.all (Start kp V O nx I R))
  (hb:∀a,I a→∃t,aJ T Γ f2 n L [y] ⟨aB L (V a),O a,nx⟩=some t∧t.all (Round kp V O nx I D μ i R a))
  (hD:∀b s',D b→(∃ρ,Le c ρ s' ⟨aB L (V b),O b,nx⟩)→aD P c nt (behind x p) s' Q) (hR:∀v s',R v→aY L s'=some v→Q .ret s'):aq P c nt x s Q:=by
 obtain⟨t,h1,h2⟩:=hp
 refine aq.hole p hc (aD.bk hT hΓ hm n L h1 (nM hd) (aa.eR ?_ h2))
 rintro e v hv s' hs'
 cases e with
 |normal=>
  obtain⟨a,hI,hre⟩:=hv
  refine(show aq P c nt (part x p) s' _ from aq.adQ hT hΓ hm hx h0 n L nx V O I D μ R a hI (hre.le hs' h0) ?_ hb (fun b s' hD' hle=>hD b s' hD' hle) fun v s' hv hs'=>hR v s' hv hs')
  have:=vR (nt:=nt) hc hd
  rw[hx]at this
  exact this
 |ret=>exact hR v s' hv hs'
 |exit k=>exact hv.elim
include hT hΓ hm in
theorem aq.jE {x y z:Code} (p:List Nat) {i:Nat} (hc:chain x p=true) (hx:part x p=.block i (.loop y)) (hz:behind x p=[z]) (hd:bT nt x=true) {kp:List Nat} (h0:Kept kp c) {f1 f2:List Nat} (n:Nat) (L:List Nat) (nx:Nat) {α:Type} (V:α→List AV) (O:α→aC) (I D:α→Prop) (μ:α→Nat) (R:List AV×aC→Prop)
  (hp:∃t,aJ T Γ f1 n L (before x p) s=some t∧t.all (Start kp V O nx I R))
  (hb:∀a,I a→∃t,aJ T Γ f2 n L [y] ⟨aB L (V a),O a,nx⟩=some t∧t.all (Round kp V O nx I D μ i R a))
  (hD:∀b,D b→aq P c nt z ⟨aB L (V b),O b,nx⟩ Q) (hR:∀v s',R v→aY L s'=some v→Q .ret s'):aq P c nt x s Q:=
 aq.Ai hT hΓ hm p hc hx hd h0 n L nx V O I D μ R hp hb (fun b s' hD' hle=>by rw[hz];exact aD.weak rfl hle (aD.one (hD b hD'))) hR
def DE (c:Ctx) (L:List Nat) {α:Type} (V:α→List AV) (O:α→aC) (nx:Nat) (I D:α→Prop) (μ:α→Nat) (i:Nat) (R:aI→Prop) (a:α):ak→aI→Prop
 |.normal,s'=>∃b,I b∧μ b<μ a∧∃ρ,Le c ρ s' ⟨aB L (V b),O b,nx⟩
 |.exit k,s'=>k=i∧∃b,D b∧∃ρ,Le c ρ s' ⟨aB L (V b),O b,nx⟩
 |.ret,s'=>R s'
include hT hΓ hm in
theorem aq.DY {x y z:Code} (p:List Nat) {i:Nat} (hc:chain x p=true) (hx:part x p=.block i (.loop y)) (hz:behind x p=[z]) (hd:bT nt x=true) {kp:List Nat} (h0:Kept kp c) {f1:List Nat} (n:Nat) (L:List Nat) (nx:Nat) {α:Type} (V:α→List AV) (O:α→aC) (I D:α→Prop) (μ:α→Nat) (R:List AV×aC→Prop)
  (hp:∃t,aJ T Γ f1 n L (before x p) s=some t∧t.all (Start kp V O nx I R))
  (hb:∀a,I a→aq P c nt y ⟨aB L (V a),O a,nx⟩ (DE c L V O nx I D μ i (fun s'=>∃v,R v∧aY L s'=some v) a))
  (hD:∀b,D b→aq P c nt z ⟨aB L (V b),O b,nx⟩ Q) (hR:∀v s',R v→aY L s'=some v→Q .ret s'):aq P c nt x s Q:=by
 obtain⟨t,h1,h2⟩:=hp
 refine aq.hole p hc (aD.bk hT hΓ hm n L h1 (nM hd) (aa.eR ?_ h2))
 rintro e v hv s' hs'
 cases e with
 |normal=>
  obtain⟨a,hI,hre⟩:=hv
  refine aq.gQ hx (fun a=>⟨aB L (V a),O a,nx⟩) I μ a (hre.le hs' h0) hI fun a ha=>(hb a ha).mono fun e s' h=>?_
  cases e with
  |normal=>
   obtain⟨b,g1,g2,g3⟩:=h
   exact⟨b,g3,g1,g2⟩
  |exit k=>
   obtain⟨rfl,b,g1,g2⟩:=h
   refine Ee ?_
   show aD P c nt (behind x p) s' _
   rw[hz]
   exact aD.weak rfl g2 (aD.one (hD b g1))
  |ret=>
   obtain⟨v,g1,g2⟩:=h
   exact hR v s' g1 g2
 |ret=>exact hR v s' hv hs'
 |exit k=>exact hv.elim
include hT hΓ hm in
theorem aq.uI {y x1 zb:Code} (p:List Nat) {j:Nat} (hc:chain y p=true) (hx:part y p=.block j x1) (hz:behind y p=[zb]) (hd:bT nt y=true) {kp:List Nat} (h0:Kept kp c) {f1:List Nat} (n:Nat) (L:List Nat) (nx:Nat) {α:Type} (V:α→List AV) (O:α→aC) (I:α→Prop)
  (hp:∃t,aJ T Γ f1 n L (before y p) s=some t∧t.all fun e v=>match e with
   |.normal=>∃a,I a∧dN kp v (V a) (O a) nx
   |e=>∀s',aY L s'=some v→Q e s')
  (hb:∀a,I a→aq P c nt x1 ⟨aB L (V a),O a,nx⟩ (inBlock j (dm (fun s'=>aq P c nt zb s' Q) Q))):aq P c nt y s Q:=by
 obtain⟨t,h1,h2⟩:=hp
 refine aq.hole p hc (aD.bk hT hΓ hm n L h1 (nM hd) (aa.eR ?_ h2))
 rintro e v hv s' hs'
 cases e with
 |normal=>
  obtain⟨a,hI,hre⟩:=hv
  refine aq.kK (hre.le hs' h0) (aq.ot hx ((hb a hI).mono fun e s' h=>?_))
  have key:∀{e s'},dm (fun s'=>aq P c nt zb s' Q) Q e s'→dm (fun s''=>aD P c nt (behind y p) s'' Q) Q e s':=fun {e s'} h=>by
   cases e with
   |normal=>show aD P c nt (behind y p) s' Q;rw[hz];exact aD.one h
   |exit k=>exact h
   |ret=>exact h
  cases e with
  |normal=>exact key (e:=.normal) h
  |exit k=>
   simp only[inBlock]at h ⊢
   split
   ·rename_i hk;rw[if_pos hk]at h;exact key (e:=.normal) h
   ·rename_i hk;rw[if_neg hk]at h;exact key (e:=.exit k) h
  |ret=>exact key (e:=.ret) h
 |ret=>exact hv s' hs'
 |exit k=>exact hv s' hs'
theorem aq.tail {z zb:Code} {j:Nat} (hne:∀s',Q (.exit j) s'→False) (h:aD P c nt [z,zb] s Q):aq P c nt z s (inBlock j (dm (fun s'=>aq P c nt zb s' Q) Q)):=
 aq.mono h fun e s' h=>by
  cases e with
  |normal=>exact aq.mono h fun e s' h=>by cases e<;>exact h
  |exit k=>
   simp only[inBlock]
   split
   ·rename_i hk;subst hk;exact(hne _ h).elim
   ·exact h
  |ret=>exact h
def nZ (fn:Func) (L:List Nat) (res:AV) (v:List AV×aC):Prop:=∃us,G3 fn (aB L v.1)=some us∧dI us res
theorem nZ.fin {fn:Func} {L:List Nat} {res:AV} {v:List AV×aC} {s':aI} (h:nZ fn L res v) (hs':aY L s'=some v):de c (Fin T fn res) .ret s':=by
 obtain⟨us,g1,g2⟩:=h
 exact .inl (fJ (.inr rfl) hs' g1 g2)
theorem oD {c:Prop} [Decidable c] {u v:AV} (hu:keys u=[]) (hv:keys v=[]):keys (if c then u else v)=[]:=by split<;>assumption
def q9 (T:Types) (fn:Func) (L:List Nat) (res:AV) (v:List AV×aC):Prop:=
 ∃vs us nx t,v.1=vs++us∧vs.length=L.length∧bf us=[]∧ji T fn .ret ⟨aB L vs,v.2,nx⟩=some t∧iD nx vs=true∧gm nx v.2∧t.all fun _ us=>dI us res
theorem q9.fin {fn:Func} {L L1:List Nat} {res:AV} {v:List AV×aC} {s':aI} (h0:Kept [] c) (h:q9 T fn L res v) (hs':aY (L++L1) s'=some v):de c (Fin T fn res) .ret s':=by
 obtain⟨vs,us,nx,t,h1,h2,h3,h4,h5,h6,h7⟩:=h
 obtain⟨v1,v2⟩:=v
 simp only at h1
 subst h1
 exact yt h4 (gZ hs' h2 h3) (fun k x hk=>by simpa using h0 k x hk) h5 h6 h7
include hT hΓ hm in
theorem fD {f:FuncId} {fn:Func} (hf:aP P f fn (au fn)) {args:List AV} {r:cU} (hk:bf args=[]) (hlen:args.length≤fn.ntmps) (hpost:r.post=[]) (p:List Nat) {i:Nat} {y z:Code} (hc:chain (au fn) p=true) (hx:part (au fn) p=.block i (.loop y)) (hz:behind (au fn) p=[z])
  {f1 f2 f3:List Nat} (n:Nat) (L:List Nat) (nx:Nat) {α:Type} (V:α→List AV) (O:α→aC) (I D:α→Prop) (μ:α→Nat)
  (h:r.need→(∃t,aJ T Γ f1 n L (before (au fn) p) ⟨aN 0 args,[],0⟩=some t∧t.all (Start [] V O nx I (nZ fn L r.res)))∧
   (∀a,I a→∃t,aJ T Γ f2 n L [y] ⟨aB L (V a),O a,nx⟩=some t∧t.all (Round [] V O nx I D μ i (nZ fn L r.res) a))∧
   ∀a,D a→∃t,bY T Γ f3 n fn [z] ⟨aB L (V a),O a,nx⟩=some t∧t.all fun _ us=>dI us r.res) (K:Nat) (pre:aC):aA P f K args pre r:=by
 refine gk hT hf hk hlen hpost (fun need c h0=>?_) K pre
 obtain⟨hp,hb,he⟩:=h need
 refine aq.jE hT hΓ hm p hc hx hz hf.dst (nP h0) n L nx V O I D μ (nZ fn L r.res) hp hb (fun a ha=>?_) fun v s' hv hs'=>hv.fin hs'
 obtain⟨t,g1,g2⟩:=he a ha
 have:=AL (x:=au fn) (p:=p) hf.dst
 rw[hz]at this
 exact aq.jK ((aD.fin hT hΓ hm n g1 this g2).mono fun _ _ h=>.inl h)
def Pz (T:Types) (fn:Func) (k:Nat) (res:AV) (o':ah) (e:ak) (s':aI):Prop:=
 (e=.normal∨e=.ret)∧Ends T fn res s'∧∃o1,look 0 s'.store=some o1∧o1.row=false∧cJ (aV [(k,0)]) o1 o'
def B7 (T:Types) (Γ:aS) (forks:List Nat) (n:Nat) (fn:Func) (l:List Code) (s:aI):Option (aa (List AV×Option ah)):=
 match pD T Γ forks n l s with
 |some t=>t.bind (B2 T fn)
 |none=>none
include hT hΓ hm in
theorem aD.K4 {fn:Func} {forks:List Nat} (n:Nat) {l:List Code} {s:aI} {t:aa (List AV×Option ah)} (hc:B7 T Γ forks n fn l s=some t) (hd:(l.all fun x=>bT nt x)=true) {k:Nat} {res:AV} {o':ah}
  (h:t.all fun _ v=>dI v.1 res∧∃o1,v.2=some o1∧o1.row=false∧cJ (aV [(k,0)]) o1 o'):aD P c nt l s (Pz T fn k res o'):=by
 unfold B7 at hc
 split at hc
 ·rename_i u hx
  refine yy hT hΓ hm hd hx (aa.eR ?_ (aa.jc hc h))
  rintro e s' ⟨v,h1,h2⟩
  unfold B2 at h1
  split at h1
  ·rename_i v' hv'
   have h4:v'.all fun _ us=>dI us res∧∃o1,look 0 s'.store=some o1∧o1.row=false∧cJ (aV [(k,0)]) o1 o':=by
    refine aa.eR ?_ (aa.jc h1 h2)
    rintro e us ⟨w,g1,g2⟩
    simp only[Option.some.injEq]at g1
    subst g1
    exact g2
   have h5:Fin T fn res e s':=D4 hv' (aa.eR (fun _ _ h=>h.1) h4)
   refine⟨h5.1,h5.2,?_⟩
   have:∀{t:aa (List AV)},(t.all fun _ us=>dI us res∧∃o1,look 0 s'.store=some o1∧o1.row=false∧cJ (aV [(k,0)]) o1 o')→∃o1,look 0 s'.store=some o1∧o1.row=false∧cJ (aV [(k,0)]) o1 o':=by
    intro t
    induction t with
    |leaf e us=>exact fun h=>h.2
    |ag ps t ih=>exact fun h=>ih h.2
    |fork b t1 t2 ih1 ih2=>
     intro h
     cases b with
     |true=>exact ih1 (h.1 rfl)
     |false=>exact ih2 (h.2 rfl)
   exact this h4
  ·simp at h1
 ·simp at hc
theorem Eu {rl:List (Nat×Nat)}:∀{rest:List AV},bf rest=[]→(rest.all fun v=>!v.isTuple)=true→fm (aV rl) rest rest
 |[],_,_=>trivial
 |v::r,h1,h2=>by
  simp only[bf,List.append_eq_nil_iff]at h1
  simp only[List.all_cons,Bool.and_eq_true,Bool.not_eq_true']at h2
  exact⟨⟨h2.1,aK h1.1⟩,Eu h1.2 h2.2⟩
include hT in
theorem MJ {f:FuncId} {fn:Func} {x:Code} (hf:aP P f fn x) {k idx es off:Nat} {p:List Nat} {rest:List AV} {o2 o o':ah} {res:AV} {l:List Prop}
  (hkr:bf rest=[]) (hrt:(rest.all fun v=>!v.isTuple)=true) (hlen:rest.length+1≤fn.ntmps) (ho:∀ρ,cJ ρ o2 o)
  (h:ax l→∀c:Ctx,Kept [0] c→aq P c fn.ntmps x ⟨aN 0 (.ptr 0 idx es off p::rest),[(0,o)],1⟩ (Pz T fn k res o')) (K:Nat):
  aA P f K (.ptr k idx es off p::rest) [(k,o2)] ⟨res,[(k,o')],l⟩:=by
 refine nu hT hf (args0:=.ptr 0 idx es off p::rest) (pre0:=[(0,o)]) (nx:=1) [(0,k)] (by simpa using hlen) (by simp[gR]) ⟨⟨rfl,l5 rfl⟩,Eu hkr hrt⟩ ⟨⟨k,o2,rfl,by simp[look],ho _⟩,trivial⟩
  (fun a x h=>?_) (fun x o h=>.inl ?_) (fun need c h0=>?_)
 ·simp only[aV,look]at h
  split at h
  ·simp only[Option.some.injEq]at h;subst h;exact⟨_,by simp[look];rfl⟩
  ·simp at h
 ·simp only[look]at h
  split at h
  ·rename_i he
   exact⟨_,by simp only[look,he,if_true];rfl⟩
  ·simp at h
 have hk:Kept [0] c:=fun a y hy=>by
  have:=h0 a y hy
  simp only[aV,look]at this
  split at this
  ·rename_i he;have:=eq_of_beq he;subst this;exact List.mem_singleton_self _
  ·simp at this
 refine(h need c hk).mono fun e s' ⟨h1,h2,o1,g1,g2,g3⟩=>⟨h1,aV [(k,0)],sY,.inl ⟨h2,fun x ox hx=>?_⟩⟩
 have he:ck (eF [(k,o')]) [(k,o2)]=[(k,o')]:=by simp[ck,eF,put]
 rw[he]at hx
 simp only[look]at hx
 split at hx
 ·rename_i hk
  have:k=x:=by simpa using hk
  subst this
  simp only[Option.some.injEq]at hx
  subst hx
  exact⟨0,o1,by simp[aV,look],g1,g2,g3⟩
 ·simp at hx
end rules
end Go.Am

/- Functions that are handed two lists that may still be written to, and leave them as they are. -/
namespace Go.Am
open AV
theorem HZ {ρ:Nat→Option Nat}:∀{us vs:List AV},bf us=[]→(us.all fun v=>!v.isTuple)=true→eC us vs→fm ρ us vs
 |[],[],_,_,_=>trivial
 |u::us,v::vs,h1,h2,h=>by
  simp only[bf,List.append_eq_nil_iff]at h1
  simp only[List.all_cons,Bool.and_eq_true,Bool.not_eq_true']at h2
  exact⟨⟨h2.1,mF h1.1 h.1⟩,HZ h1.2 h2.2 h.2⟩
 |[],_::_,_,_,h=>h.elim
 |_::_,[],_,_,h=>h.elim
def IN (T:Types) (fn:Func) (e:ak) (s:aI):Option (aa (List AV×Option ah×Option ah)):=match e with
 |.exit _=>none
 |e=>match fE T s fn.results.toList with
  |some (vs,q)=>some (.need q (.leaf e (vs,look 0 s.store,look 1 s.store)))
  |none=>none
def Qx (us:List AV) (o p:ah) (v:List AV×Option ah×Option ah):Prop:=
 bf v.1=[]∧(v.1.all fun v=>!v.isTuple)=true∧eC v.1 us∧(∃o1,v.2.1=some o1∧∀ρ,cJ ρ o1 o)∧∃p1,v.2.2=some p1∧∀ρ,cJ ρ p1 p
def J8 (T:Types) (fn:Func) (us:List AV) (o p:ah) (e:ak) (s:aI):Prop:=
 (e=.normal∨e=.ret)∧(∃vs q,fE T s fn.results.toList=some (vs,q)∧ax q∧bf vs=[]∧(vs.all fun v=>!v.isTuple)=true∧eC vs us)∧(∃o1,look 0 s.store=some o1∧∀ρ,cJ ρ o1 o)∧∃p1,look 1 s.store=some p1∧∀ρ,cJ ρ p1 p
theorem YD {T:Types} {fn:Func} {e:ak} {s:aI} {t:aa (List AV×Option ah×Option ah)} {us:List AV} {o p:ah} (h1:IN T fn e s=some t) (h2:t.all fun _ v=>Qx us o p v):J8 T fn us o p e s:=by
 unfold IN at h1
 have key:∀{e':ak},(match fE T s fn.results.toList with
   |some (vs,q)=>some (aa.need q (.leaf e' (vs,look 0 s.store,look 1 s.store)))
   |none=>none)=some t→(∃vs q,fE T s fn.results.toList=some (vs,q)∧ax q∧bf vs=[]∧(vs.all fun v=>!v.isTuple)=true∧eC vs us)∧(∃o1,look 0 s.store=some o1∧∀ρ,cJ ρ o1 o)∧∃p1,look 1 s.store=some p1∧∀ρ,cJ ρ p1 p:=by
  intro e' h1
  cases hr:fE T s fn.results.toList with
  |none=>rw[hr]at h1;simp at h1
  |some r=>
   obtain⟨vs,q⟩:=r
   rw[hr]at h1
   simp only[Option.some.injEq]at h1
   subst h1
   obtain⟨g1,g2,g3,g4,g5,g6⟩:=aa.xF.1 h2
   exact⟨⟨vs,q,rfl,g1,g2,g3,g4⟩,g5,g6⟩
 cases e with
 |normal=>exact⟨.inl rfl,key h1⟩
 |ret=>exact⟨.inr rfl,key h1⟩
 |exit i=>simp at h1
section rules
variable {P:Program} {c:Ctx} {nt:Nat} {s:aI} {Q:ak→aI→Prop} {T:Types} (hT:ec P T) {Γ:aS} (hΓ:aW P Γ) (hm:P.follows .mixedOrders=true)
def NW (T:Types) (fn:Func) (L:List Nat) (us:List AV) (o p:ah) (v:List AV×aC):Prop:=
 ∃vs ws nx t,v.1=vs++ws∧vs.length=L.length∧bf ws=[]∧IN T fn .ret ⟨aB L vs,v.2,nx⟩=some t∧iD nx vs=true∧gm nx v.2∧2≤nx∧t.all fun _ v=>Qx us o p v
theorem NW.fin {fn:Func} {L L1:List Nat} {us:List AV} {o p:ah} {v:List AV×aC} {s':aI} (h0:Kept [0,1] c) (h:NW T fn L us o p v) (hs':aY (L++L1) s'=some v):de c (J8 T fn us o p) .ret s':=by
 obtain⟨vs,ws,nx,t,h1,h2,h3,h4,h5,h6,hn,h7⟩:=h
 obtain⟨v1,v2⟩:=v
 simp only at h1
 subst h1
 obtain⟨ρ,hle⟩:=mB (gZ hs' h2 h3) (fun k x hk=>by
  have:=h0 k x hk
  simp only[List.mem_cons,List.not_mem_nil,or_false]at this
  omega) h5 h6
 exact .inr ⟨_,ρ,hle,YD h4 h7⟩
end rules
end Go.Am

/- Functions that are handed a list to write to, and give back a part of it. -/
namespace Go.Am
open AV
def Iz (fn:Func) (k:Nat) (ws:List AV) (o':ah) (e:ak) (s':aI):Prop:=
 (e=.normal∨e=.ret)∧∃ls vs us os o1,aY ls s'=some (vs,os)∧kH (aB ls vs) fn.results.toList=some us∧fm (aV [(k,0)]) us ws∧look 0 os=some o1∧cJ (aV [(k,0)]) o1 o'
def BM (fn:Func) (k:Nat) (ws:List AV) (o':ah) (L:List Nat) (v:List AV×aC):Prop:=∃us o1,kH (aB L v.1) fn.results.toList=some us∧fm (aV [(k,0)]) us ws∧look 0 v.2=some o1∧cJ (aV [(k,0)]) o1 o'
theorem BM.fin {fn:Func} {k:Nat} {ws:List AV} {o':ah} {L:List Nat} {v:List AV×aC} {s':aI} (h:BM fn k ws o' L v) (hs':aY L s'=some v):Iz fn k ws o' .ret s':=by
 obtain⟨us,o1,h1,h2,h3,h4⟩:=h
 exact⟨.inr rfl,L,v.1,us,v.2,o1,hs',h1,h2,h3,h4⟩
section rules
variable {P:Program} {c:Ctx} {nt:Nat} {s:aI} {Q:ak→aI→Prop} {T:Types} (hT:ec P T) {Γ:aS} (hΓ:aW P Γ) (hm:P.follows .mixedOrders=true)
include hT hΓ hm in
theorem aq.branch {x u v:Code} {b:Operand} (p:List Nat) (hc:chain x p=true) (hx:part x p=.cond b u v) (hz:behind x p=[]) (hd:bT nt x=true) {kp:List Nat} (h0:Kept kp c) {f1:List Nat} (n:Nat) (L:List Nat) (nx:Nat) {α:Type} (V:α→List AV) (O:α→aC) (I:α→Prop)
  (hp:∃t,aJ T Γ f1 n L (before x p) s=some t∧t.all fun e v=>match e with
   |.normal=>∃a,I a∧dN kp v (V a) (O a) nx
   |e=>∀s',aY L s'=some v→Q e s')
  (hb:∀a,I a→∃t,(⟨aB L (V a),O a,nx⟩:aI).fQ b=some (.bool t)∧(t=true→aq P c nt u ⟨aB L (V a),O a,nx⟩ Q)∧(t=false→aq P c nt v ⟨aB L (V a),O a,nx⟩ Q)):aq P c nt x s Q:=by
 obtain⟨t,h1,h2⟩:=hp
 refine aq.hole p hc (aD.bk hT hΓ hm n L h1 (nM hd) (aa.eR ?_ h2))
 rintro e v hv s' hs'
 cases e with
 |normal=>
  obtain⟨a,hI,hre⟩:=hv
  obtain⟨t,g1,g2,g3⟩:=hb a hI
  show aq P c nt (part x p) s' _
  rw[hx,hz]
  have key:∀{y:Code} {s:aI},aq P c nt y s Q→aq P c nt y s (dm (fun s''=>aD P c nt [] s'' Q) Q):=fun h=>h.mono fun e s' h=>by cases e<;>exact h
  exact aq.kK (hre.le hs' h0) (aq.cond g1 (fun ht=>key (g2 ht)) fun ht=>key (g3 ht))
 |ret=>exact hv s' hs'
 |exit k=>exact hv s' hs'
include hT in
theorem Sl {f:FuncId} {fn:Func} {x:Code} (hf:aP P f fn x) {k es st n:Nat} {rest ws:List AV} {o2 o o':ah} {l:List Prop}
  (hkr:bf rest=[]) (hrt:(rest.all fun v=>!v.isTuple)=true) (hlen:rest.length+1≤fn.ntmps) (ho:∀ρ,cJ ρ o2 o)
  (h:ax l→∀c:Ctx,Kept [0] c→aq P c fn.ntmps x ⟨aN 0 (.own 0 es st n::rest),[(0,o)],1⟩ (Iz fn k ws o')) (K:Nat):
  aA P f K (.own k es st n::rest) [(k,o2)] ⟨kA ws,[(k,o')],l⟩:=by
 refine nu hT hf (args0:=.own 0 es st n::rest) (pre0:=[(0,o)]) (nx:=1) [(0,k)] (by simpa using hlen) (by simp[gR]) ⟨⟨rfl,cV rfl rfl rfl⟩,Eu hkr hrt⟩ ⟨⟨k,o2,rfl,by simp[look],ho _⟩,trivial⟩
  (fun a x h=>?_) (fun x o h=>.inl ?_) (fun need c h0=>?_)
 ·simp only[aV,look]at h
  split at h
  ·simp only[Option.some.injEq]at h;subst h;exact⟨_,by simp[look];rfl⟩
  ·simp at h
 ·simp only[look]at h
  split at h
  ·rename_i he
   exact⟨_,by simp only[look,he,if_true];rfl⟩
  ·simp at h
 have hk:Kept [0] c:=fun a y hy=>by
  have:=h0 a y hy
  simp only[aV,look]at this
  split at this
  ·rename_i he;have:=eq_of_beq he;subst this;exact List.mem_singleton_self _
  ·simp at this
 refine(h need c hk).mono fun e s' ⟨h1,ls,vs,us,os,o1,g1,g2,g3,g4,g5⟩=>⟨h1,aV [(k,0)],sY,.inr (tQ (ws:=ws) (ps:=[(k,o')]) g1 g2 g3 rfl (by simp[ck,eF,put]) ⟨⟨0,o1,by simp[aV,look],g4,g5⟩,trivial⟩)⟩
include hT in
theorem Qg {f:FuncId} {fn:Func} {x:Code} (hf:aP P f fn x) {args args0 ws:List AV} {o':ah} {K:Nat} {l:List Prop} (ha:ax l→fm (aV []) args args0) (hlen:args0.length≤fn.ntmps)
  (h:ax l→∀c:Ctx,Kept [] c→aq P c fn.ntmps x ⟨aN 0 args0,[],0⟩ fun e s'=>(e=.normal∨e=.ret)∧∃ls vs us os a o,aY ls s'=some (vs,os)∧kH (aB ls vs) fn.results.toList=some us∧fm (aV [(K,a)]) us ws∧look a os=some o∧cJ (aV [(K,a)]) o o'):
  aA P f K args [] ⟨kA ws,[(K,o')],l⟩:=by
 intro need
 refine(nu hT hf (args0:=args0) (pre0:=[]) (nx:=0) [] hlen rfl (ha need) trivial (fun a k h=>by simp[aV,look]at h) (fun k o h=>?_) (fun need c h0=>?_):aA P f K args [] ⟨kA ws,[(K,o')],l⟩) need
 ·simp only[look]at h
  split at h
  ·rename_i he
   have:K=k:=by simpa using he
   subst this
   exact .inr ⟨Nat.le_refl _,by unfold cq;omega⟩
  ·simp at h
 ·refine(h need c fun k x hk=>by simpa [aV,look]using h0 k x hk).mono ?_
  rintro e s' ⟨h1,ls,vs,us,os,a,o,h2,h3,h4,h5,h6⟩
  exact⟨h1,aV [(K,a)],FC ⟨Nat.le_refl _,by unfold cq;omega⟩,.inr (tQ (ws:=ws) (ps:=[(K,o')]) h2 h3 h4 rfl rfl ⟨⟨a,o,by simp[aV,look],h5,h6⟩,trivial⟩)⟩
end rules
end Go.Am

/- A loop in a loop. -/
namespace Go.Am
open AV
section rules
variable {P:Program} {c:Ctx} {nt:Nat} {s:aI} {Q:ak→aI→Prop} {T:Types} (hT:ec P T) {Γ:aS} (hΓ:aW P Γ) (hm:P.follows .mixedOrders=true)
def Head (kp:List Nat) {α:Type} (V:α→List AV) (O:α→aC) (nx:Nat) (D:α→Prop) (i:Nat) (R:List AV×aC→Prop) (G:α→Prop) (a:α):ak→List AV×aC→Prop
 |.normal,v=>G a∧dN kp v (V a) (O a) nx
 |.exit k,v=>k=i∧∃b,D b∧dN kp v (V b) (O b) nx
 |.ret,v=>R v
def UX (kp:List Nat) {α:Type} (V:α→List AV) (O:α→aC) (nx:Nat) (I:α→Prop) (μ:α→Nat) (a:α):ak→List AV×aC→Prop
 |.normal,v=>∃b,I b∧μ b<μ a∧dN kp v (V b) (O b) nx
 |_,_=>False
theorem Yf {i:Nat} {y:Code} (h:bT nt (.block i (.loop y))=true):bT nt y=true:=by simpa [bT]using h
theorem YN {i:Nat} {y:Code} (h:bT nt (.block i y)=true):bT nt y=true:=by simpa [bT]using h
include hT hΓ hm in
theorem aq.St {x y x1 zb y2:Code} (p:List Nat) {i:Nat} (hc:chain x p=true) (hx:part x p=.block i (.loop y)) (hd:bT nt x=true)
  (q:List Nat) {j:Nat} (hcq:chain y q=true) (hxq:part y q=.block j x1) (hzq:behind y q=[zb]) (r:List Nat) {i2:Nat} (hcr:chain x1 r=true) (hxr:part x1 r=.block i2 (.loop y2)) (hij:(i==j)=false)
  {kp:List Nat} (h0:Kept kp c) {f1 f2 f3 f4 f5:List Nat} (n:Nat) (L1 L2:List Nat) (nx1 nx2:Nat) {α β:Type} (V1:α→List AV) (O1:α→aC) (I1 D1:α→Prop) (μ1:α→Nat) (G:α→Prop) (R1 R2:List AV×aC→Prop)
  (V2:α→β→List AV) (O2:α→β→aC) (I2 D2:α→β→Prop) (μ2:α→β→Nat)
  (hp:∃t,aJ T Γ f1 n L1 (before x p) s=some t∧t.all (Start kp V1 O1 nx1 I1 R1))
  (ho:∀a,I1 a→∃t,aJ T Γ f2 n L1 (before y q) ⟨aB L1 (V1 a),O1 a,nx1⟩=some t∧t.all (Head kp V1 O1 nx1 D1 i R1 G a))
  (hi:∀a,I1 a→G a→∃t,aJ T Γ f3 n L2 (before x1 r) ⟨aB L1 (V1 a),O1 a,nx1⟩=some t∧t.all (Start kp (V2 a) (O2 a) nx2 (I2 a) R2))
  (hb:∀a,I1 a→G a→∀b,I2 a b→∃t,aJ T Γ f4 n L2 [y2] ⟨aB L2 (V2 a b),O2 a b,nx2⟩=some t∧t.all (Round kp (V2 a) (O2 a) nx2 (I2 a) (D2 a) (μ2 a) i2 R2 b))
  (ht:∀a,I1 a→G a→∀b,D2 a b→∃t,aJ T Γ f5 n L1 (behind x1 r++[zb]) ⟨aB L2 (V2 a b),O2 a b,nx2⟩=some t∧t.all (UX kp V1 O1 nx1 I1 μ1 a))
  (hD:∀b s',D1 b→(∃ρ,Le c ρ s' ⟨aB L1 (V1 b),O1 b,nx1⟩)→aD P c nt (behind x p) s' Q) (hR1:∀v s',R1 v→aY L1 s'=some v→Q .ret s') (hR2:∀v s',R2 v→aY L2 s'=some v→Q .ret s'):aq P c nt x s Q:=by
 have hdy:bT nt y=true:=by
  have:=vR (nt:=nt) hc hd
  rw[hx]at this
  exact Yf this
 have hdx1:bT nt x1=true:=by
  have:=vR (nt:=nt) hcq hdy
  rw[hxq]at this
  exact YN this
 have hdz:((behind x1 r++[zb]).all fun x=>bT nt x)=true:=by
  have h1:=AL (nt:=nt) (p:=r) hdx1
  have h2:=AL (nt:=nt) (p:=q) hdy
  rw[hzq]at h2
  rw[List.all_append,h1,h2];rfl
 obtain⟨t,h1,h2⟩:=hp
 refine aq.hole p hc (aD.bk hT hΓ hm n L1 h1 (nM hd) (aa.eR ?_ h2))
 rintro e v hv s' hs'
 cases e with
 |ret=>exact hR1 v s' hv hs'
 |exit k=>exact hv.elim
 |normal=>
  obtain⟨a,hI,hre⟩:=hv
  refine(show aq P c nt (part x p) s' _ from aq.gQ hx (fun a=>⟨aB L1 (V1 a),O1 a,nx1⟩) I1 μ1 a (hre.le hs' h0) hI fun a ha=>?_)
  refine aq.mono (Q:=DE c L1 V1 O1 nx1 I1 D1 μ1 i (fun s'=>Q .ret s') a) ?_ fun e s' h=>?_
  ·refine aq.uI hT hΓ hm q hcq hxq hzq hdy h0 (f1:=f2) n L1 nx1 (fun _:Unit=>V1 a) (fun _=>O1 a) (fun _=>G a) ?_ (fun _ hG=>?_)
   ·obtain⟨t,g1,g2⟩:=ho a ha
    refine⟨t,g1,aa.eR ?_ g2⟩
    rintro e v hv
    cases e with
    |normal=>exact⟨(),hv.1,hv.2⟩
    |exit k=>exact fun s' hs'=>⟨hv.1,hv.2.imp fun b hb=>⟨hb.1,hb.2.le hs' h0⟩⟩
    |ret=>exact fun s' hs'=>hR1 v s' hv hs'
   ·refine aq.Ai hT hΓ hm r hcr hxr hdx1 h0 (f1:=f3) (f2:=f4) n L2 nx2 (V2 a) (O2 a) (I2 a) (D2 a) (μ2 a) R2 (hi a ha hG) (hb a ha hG) (fun b s' hb hle=>?_) (fun v s' hv hs'=>hR2 v s' hv hs')
    obtain⟨t,g1,g2⟩:=ht a ha hG b hb
    have key:aD P c nt (behind x1 r++[zb]) s' (DE c L1 V1 O1 nx1 I1 D1 μ1 i (fun s'=>Q .ret s') a):=by
     refine aD.weak (by cases behind x1 r<;>rfl) hle (aD.bk hT hΓ hm n L1 g1 hdz (aa.eR ?_ g2))
     rintro e v hv s' hs'
     cases e with
     |normal=>
      obtain⟨b,k1,k2,k3⟩:=hv
      exact⟨b,k1,k2,k3.le hs' h0⟩
     |exit k=>exact hv.elim
     |ret=>exact hv.elim
    refine aD.mono ?_ (aD.append key)
    rintro e s' h
    cases e with
    |normal=>exact aq.jK h
    |exit k=>
     simp only[inBlock]
     have hk:k=i:=h.1
     rw[if_neg (by rw[hk];simpa using hij)]
     exact h
    |ret=>exact h
  ·cases e with
   |normal=>
    obtain⟨b,g1,g2,g3⟩:=h
    exact⟨b,g3,g1,g2⟩
   |exit k=>
    obtain⟨rfl,b,g1,g2⟩:=h
    refine Ee ?_
    show aD P c nt (behind x p) s' _
    exact hD b s' g1 g2
   |ret=>exact h
end rules
end Go.Am

/- Functions that are handed one list that may still be written to, and leave it as it is. -/
namespace Go.Am
open AV
def Aw (T:Types) (fn:Func) (e:ak) (s:aI):Option (aa (List AV×Option ah)):=match e with
 |.exit _=>none
 |e=>match fE T s fn.results.toList with
  |some (vs,q)=>some (.need q (.leaf e (vs,look 0 s.store)))
  |none=>none
def HS (T:Types) (Γ:aS) (forks:List Nat) (n:Nat) (fn:Func) (l:List Code) (s:aI):Option (aa (List AV×Option ah)):=
 match pD T Γ forks n l s with
 |some t=>t.bind (Aw T fn)
 |none=>none
def Hf (us:List AV) (o:ah) (v:List AV×Option ah):Prop:=
 bf v.1=[]∧(v.1.all fun v=>!v.isTuple)=true∧eC v.1 us∧∃o1,v.2=some o1∧∀ρ,cJ ρ o1 o
def AX (T:Types) (fn:Func) (us:List AV) (o:ah) (e:ak) (s:aI):Prop:=
 (e=.normal∨e=.ret)∧(∃vs q,fE T s fn.results.toList=some (vs,q)∧ax q∧bf vs=[]∧(vs.all fun v=>!v.isTuple)=true∧eC vs us)∧∃o1,look 0 s.store=some o1∧∀ρ,cJ ρ o1 o
theorem Mk {T:Types} {fn:Func} {e:ak} {s:aI} {t:aa (List AV×Option ah)} {us:List AV} {o:ah} (h1:Aw T fn e s=some t) (h2:t.all fun _ v=>Hf us o v):AX T fn us o e s:=by
 unfold Aw at h1
 have key:∀{e':ak},(match fE T s fn.results.toList with
   |some (vs,q)=>some (aa.need q (.leaf e' (vs,look 0 s.store)))
   |none=>none)=some t→(∃vs q,fE T s fn.results.toList=some (vs,q)∧ax q∧bf vs=[]∧(vs.all fun v=>!v.isTuple)=true∧eC vs us)∧∃o1,look 0 s.store=some o1∧∀ρ,cJ ρ o1 o:=by
  intro e' h1
  cases hr:fE T s fn.results.toList with
  |none=>rw[hr]at h1;simp at h1
  |some r=>
   obtain⟨vs,q⟩:=r
   rw[hr]at h1
   simp only[Option.some.injEq]at h1
   subst h1
   obtain⟨g1,g2,g3,g4,g5⟩:=aa.xF.1 h2
   exact⟨⟨vs,q,rfl,g1,g2,g3,g4⟩,g5⟩
 cases e with
 |normal=>exact⟨.inl rfl,key h1⟩
 |ret=>exact⟨.inr rfl,key h1⟩
 |exit i=>simp at h1
section rules
variable {P:Program} {c:Ctx} {nt:Nat} {s:aI} {Q:ak→aI→Prop} {T:Types} (hT:ec P T) {Γ:aS} (hΓ:aW P Γ) (hm:P.follows .mixedOrders=true)
include hT hΓ hm in
theorem aD.aag {fn:Func} {forks:List Nat} (n:Nat) {l:List Code} {t:aa (List AV×Option ah)} (hc:HS T Γ forks n fn l s=some t) (hd:(l.all fun x=>bT nt x)=true) {us:List AV} {o:ah}
  (h:t.all fun _ v=>Hf us o v):aD P c nt l s (AX T fn us o):=by
 unfold HS at hc
 split at hc
 ·rename_i u hx
  refine yy hT hΓ hm hd hx (aa.eR ?_ (aa.jc hc h))
  rintro e s' ⟨v,h1,h2⟩
  exact Mk h1 h2
 ·simp at hc
def Dn (T:Types) (fn:Func) (L:List Nat) (us:List AV) (o:ah) (v:List AV×aC):Prop:=
 ∃vs ws nx t,v.1=vs++ws∧vs.length=L.length∧bf ws=[]∧Aw T fn .ret ⟨aB L vs,v.2,nx⟩=some t∧iD nx vs=true∧gm nx v.2∧1≤nx∧t.all fun _ v=>Hf us o v
theorem Dn.fin {fn:Func} {L L1:List Nat} {us:List AV} {o:ah} {v:List AV×aC} {s':aI} (h0:Kept [0] c) (h:Dn T fn L us o v) (hs':aY (L++L1) s'=some v):de c (AX T fn us o) .ret s':=by
 obtain⟨vs,ws,nx,t,h1,h2,h3,h4,h5,h6,hn,h7⟩:=h
 obtain⟨v1,v2⟩:=v
 simp only at h1
 subst h1
 obtain⟨ρ,hle⟩:=mB (gZ hs' h2 h3) (fun k x hk=>by
  have:=h0 k x hk
  simp only[List.mem_cons,List.not_mem_nil,or_false]at this
  omega) h5 h6
 exact .inr ⟨_,ρ,hle,Mk h4 h7⟩
include hT in
theorem SV {f:FuncId} {fn:Func} {x:Code} (hf:aP P f fn x) {args args0 us:List AV} {a:Nat} {oa oa0:ah} {l:List Prop} (hlen:args0.length≤fn.ntmps)
  (ha:fm (aV [(0,a)]) args args0) (hoa:ax l→∀ρ,cJ ρ oa oa0)
  (h:ax l→∀c:Ctx,Kept [0] c→aq P c fn.ntmps x ⟨aN 0 args0,[(0,oa0)],1⟩ (de c (AX T fn us oa0))) (K:Nat):aA P f K args [(a,oa)] ⟨kA us,[(a,oa0)],l⟩:=by
 intro need
 refine(nu hT hf (args0:=args0) (pre0:=[(0,oa0)]) (nx:=1) [(0,a)] hlen (by simp[gR]) ha ⟨⟨a,oa,rfl,tM,hoa need _⟩,trivial⟩
  (fun x k h=>?_) (fun x o h=>.inl ?_) (fun need c h0=>?_):aA P f K args [(a,oa)] ⟨kA us,[(a,oa0)],l⟩) need
 ·simp only[aV,look]at h
  split at h
  ·simp only[Option.some.injEq]at h;subst h;exact⟨_,tM⟩
  ·simp at h
 ·simp only[look]at h ⊢
  split at h
  ·rename_i he;exact⟨oa,by rw[if_pos he]⟩
  ·simp at h
 have hk:Kept [0] c:=fun x y hy=>by
  have:=h0 x y hy
  simp only[aV,look]at this
  split at this
  ·rename_i he;have:=eq_of_beq he;subst this;simp
  ·simp at this
 refine(h need c hk).down.mono ?_
 rintro e s' ⟨h1,⟨vs,q,g1,g2,g3,g4,g5⟩,o1,g6,g7⟩
 refine⟨h1,aV [(a,0)],sY,.inr ⟨⟨vs,q,us,g1,g2,HZ g3 g4 g5,rfl⟩,fun k o hk=>?_⟩⟩
 have he:ck (eF [(a,oa0)]) [(a,oa)]=[(a,oa0)]:=by simp[ck,eF,put]
 rw[he]at hk
 simp only[look]at hk
 split at hk
 ·rename_i hx
  have:=eq_of_beq hx
  simp only[Option.some.injEq]at hk
  subst hk this
  exact⟨0,o1,by simp[aV,look],g6,g7 _⟩
 ·simp at hk
end rules
end Go.Am

/- A variable that nothing writes to any more, as final data. -/
namespace Go.Am
open AV
section rules
variable {P:Program} {c:Ctx} {nt:Nat} {x:Code} {s:aI} {Q:ak→aI→Prop}
theorem aq.OR {t k:Nat} {o:ah} (ht:look t s.cu=some (.ptr k 0 o.es 0 [])) (hk:look k s.store=some o) (h1:o.row=false) (h2:o.len=1) (h3:(o.f 0).keys=[])
  (h:aq P c nt x ⟨qT (some t) (.bg (o.f 0)) s.cu,put k {o with wr:=false} s.store,s.next⟩ Q):aq P c nt x s Q:=by
 intro a w ⟨hd,hs,β,hw,hsl⟩
 have hcap:rN s.store (.ptr k 0 o.es 0 [])=some (k,o):=by
  unfold rN
  simp[hk,h1,h2,h3]
 obtain⟨xv,hx,hv⟩:=hsl t _ ht
 obtain⟨cs,hc,hx2⟩:=hv.one rfl
 have key:=KQ (pre:=s.store) hw (fun k o hk=>⟨o,hk,.inl rfl⟩) hc
 simp only[oz,qk,hcap,ck]at key
 obtain⟨q1,q2,q3⟩:=key
 refine h a w ⟨hd.gy hw q2,hs,β,q1,fun t' v hv'=>?_⟩
 rw[C5]at hv'
 split at hv'
 ·rename_i he
  simp only[Option.some.injEq]at he hv'
  subst he
  subst hv'
  refine⟨xv,hx,aX.bD ⟨cs,q3,.inr ⟨rfl,?_⟩⟩⟩
  rcases hx2 with⟨g,_⟩|⟨_,g⟩
  ·exact Bool.noConfusion g
  ·exact g
 ·obtain⟨y,hy,hvy⟩:=hsl t' v hv'
  exact⟨y,hy,hvy.gy q2⟩
end rules
end Go.Am

/- The call of a law, from its contract: whatever the arguments. -/
namespace Go.Am
open Go Go.ChangeShapes Go.WideShapes Go.ChangeAt Go.RowKit AV
inductive PK where
 |list
 |int (k:IntKind)
 |bool
def Pt (P:Program):PK→TypeId→Prop
 |.list,t=>∃e,P.underlying t=some (.slice e)∧P.underlying e=some (.int .i64)∧P.cellsOf e=1
 |.int k,t=>P.underlying t=some (.int k)
 |.bool,t=>P.underlying t=some .bool
def xG (P:Program):List PK→List TypeId→Prop
 |[],[]=>True
 |k::ks,t::ts=>(Pt P k t∧P.readableRec t=true∧t<P.types.size)∧xG P ks ts
 |_,_=>False
def ND:PK→AV→Prop
 |.list,a=>∃(n:Nat) (z:Nat→Int),a=.aj 1 n (fun i=>.int .i64 (z i))
 |.int k,a=>∃n,a=.int k n
 |.bool,a=>∃b,a=.bool b
def HF:List PK→List AV→Prop
 |[],as=>as=[]
 |k::ks,as=>∃a l,as=a::l∧ND k a∧HF ks l
section
variable {P:Program} {H:Type} {enc:TypeId×Value→H} {W:World} {base:Nat}
theorem SE {k:PK} {t:TypeId} {v:Value} {d:DataW H} {p:List MemPlace} (hk:Pt P k t) (h:DataW.Trod enc P W 0 (fun _=>true) true t v d p) (hv:Value.okWide P W .any base t v):∃a,ND k a∧aX (fun _=>False) W aZ a v:=by
 cases k with
 |int k=>
  obtain⟨n,rfl⟩:=okWide_int hk hv
  exact⟨_,⟨n,rfl⟩,.bW (.int .nil) rfl⟩
 |bool=>
  obtain⟨b,rfl⟩:=okWide_bool hk hv
  exact⟨_,⟨b,rfl⟩,.bW (.bool .nil) rfl⟩
 |list=>
  obtain⟨e,h1,h2,h3⟩:=hk
  obtain⟨a0,len,cap,rfl⟩:=okWide_slice h1 hv
  obtain⟨fuel,hf⟩:=h
  have key:∀{z:Nat→Int},len≤cap→(len=0∨∃b o,a0=some ⟨b,o,none⟩∧∀i,i<len→W.cell? ⟨b,o+i,none⟩=some (.int .i64 (z i)))→aX (fun _=>False) W aZ (.aj 1 len (fun i=>.int .i64 (z i))) (.slice a0 len cap):=fun {z} hcap hr=>by
   refine .bW (.aj (cf:=fun i=>[.int .i64 (z i)]) ?_ (by omega) hcap (fun _ _=>rfl) (fun _ _=>.int .nil) .nil) rfl
   rcases hr with hr|⟨b,o,rfl,hr⟩
   ·exact .inl hr
   ·refine .inr ⟨b,o,rfl,fun i hi=>?_⟩
    have hc:=hr i hi
    simp only[World.cell?]at hc
    split at hc
    ·rename_i cs ty fr hh
     simp only[Option.isSome_none,Bool.false_eq_true,if_false]at hc
     refine⟨cs,ty,fr,hh,id,fun j v hj=>?_⟩
     have hj0:j=0:=by have:=(List.getElem?_eq_some_iff.1 hj).1;simp at this;exact this
     subst hj0
     simp only[List.getElem?_cons_zero,Option.some.injEq]at hj
     subst hj
     simpa using hc
    ·simp at hc
  rcases open_ints h1 h2 h3 hf with⟨hcs,hx⟩|⟨a,len',cap',zs,hcs,_,hl,hm,hz,hx,hcell,hwz⟩
  ·simp only[Value.cells,List.cons.injEq,Value.slice.injEq,and_true]at hcs
   obtain⟨rfl,rfl,rfl⟩:=hcs
   exact⟨_,⟨0,fun _=>0,rfl⟩,key (z:=fun _=>0) (Nat.le_refl _) (.inl rfl)⟩
  ·simp only[Value.cells,List.cons.injEq,Value.slice.injEq,and_true]at hcs
   obtain⟨rfl,rfl,rfl⟩:=hcs
   simp only[if_true]at hz
   refine⟨_,⟨len,fun i=>zs.getD i 0,rfl⟩,key hl ?_⟩
   rcases Nat.eq_zero_or_pos len with h0|h0
   ·exact .inl h0
   ·obtain⟨b,o,m⟩:=a
    have h1:=hcell 0 (by omega)
    have:m=none:=by
     cases m with
     |none=>rfl
     |some y=>exfalso;simp only[Addr.add,World.cell?]at h1;split at h1<;>simp at h1
    subst this
    exact .inr ⟨b,o,rfl,fun i hi=>by
     have h2:=hcell i (by omega)
     rcases Nat.eq_zero_or_pos i with hi|hi
     ·subst hi;simpa [Addr.add]using h2
     ·simpa [Addr.add,Nat.pos_iff_ne_zero.1 hi]using h2⟩
theorem K9:∀{ks:List PK} {ts:List TypeId} {vs:List Value} {ds:List (DataW H)} {p:List MemPlace},xG P ks ts→DataW.TrodAll enc P W 0 (fun _=>true) true ts vs ds p→(∀(j:Nat) t v,ts[j]?=some t→vs[j]?=some v→Value.okWide P W .any base t v)→
  ∃as,HF ks as∧bV (fun _=>False) W aZ as vs
 |[],[],vs,ds,p,_,h,_=>by
  obtain⟨rfl,_,_⟩:=trodAll_nil h
  exact⟨[],rfl,trivial⟩
 |k::ks,t::ts,vs,ds,p,hk,h,hv=>by
  obtain⟨v,vs',d,ds',p1,q,rfl,rfl,rfl,hd,hrest⟩:=trodAll_cons h
  obtain⟨a,h1,h2⟩:=SE hk.1.1 hd (hv 0 t v rfl rfl)
  obtain⟨as,h3,h4⟩:=K9 hk.2 hrest fun j t v h1 h2=>hv (j+1) t v h1 h2
  exact⟨a::as,⟨a,as,rfl,h1,h3⟩,h2,h4⟩
 |[],_::_,_,_,_,h,_,_=>h.elim
 |_::_,[],_,_,_,h,_,_=>h.elim
theorem Qt {b:Nat} {sp:Nat→Bool} {held:Bool}:∀{ts:List TypeId} {vs:List Value} {ds:List (DataW H)} {p:List MemPlace},DataW.TrodAll enc P W b sp held ts vs ds p→ds.length=ts.length
 |[],vs,ds,p,h=>by
  obtain⟨_,rfl,_⟩:=trodAll_nil h
  rfl
 |t::ts,vs,ds,p,h=>by
  obtain⟨v,vs',d,ds',p1,q,rfl,rfl,rfl,hd,hrest⟩:=trodAll_cons h
  simp[Qt hrest]
theorem LQ (hl:laidOutB P=true) {W':World} (hb:Below W.heap.size W W'):∀{ks:List PK} {ts:List TypeId} {vs:List Value} {ds:List (DataW H)} {p:List MemPlace},xG P ks ts→DataW.TrodAll enc P W 0 (fun _=>true) true ts vs ds p→(∀x∈p,x.block<W.heap.size)→
  DataW.TrodAll enc P W' 0 (fun b=>decide (b<W.heap.size)) true ts vs ds p
 |[],[],vs,ds,p,_,h,_=>by
  obtain⟨rfl,rfl,rfl⟩:=trodAll_nil h
  exact trodAll_mk0
 |k::ks,t::ts,vs,ds,p,hk,h,hlt=>by
  obtain⟨v,vs',d,ds',p1,q,rfl,rfl,rfl,hd,hrest⟩:=trodAll_cons h
  exact⟨_,_,Below.trod hl hk.1.2.1 hk.1.2.2 hd hb fun x hx=>hlt x (List.mem_append_left _ hx),LQ hl hb hk.2 hrest fun x hx=>hlt x (List.mem_append_right _ hx),rfl⟩
 |[],_::_,_,_,_,h,_,_=>h.elim
 |_::_,[],_,_,_,h,_,_=>h.elim
theorem Sj (hl:laidOutB P=true) {f:FuncId} {fn:Func} (hf:P.funcs[f]?=some fn) (hb:fn.body.isNone=false) {ks:List PK} {ts:List TypeId} (hk:xG P ks ts) {args:Array Value} {ds:List (DataW H)} {p:List MemPlace}
  (hA:DataW.TrodAll enc P W 0 (fun _=>true) true ts args.toList ds p) (hv:∀(j:Nat) t v,ts[j]?=some t→args[j]?=some v→Value.okWide P W .any base t v) (hlt:∀x∈p,x.block<W.heap.size) (hF:∀as,HF ks as→aA P f 0 as [] ⟨.bool true,[],[]⟩):
  Calls P f args W fun e W'=>e=.returned (.bool true)∧Below W.heap.size W W'∧DataW.TrodAll enc P W' 0 (fun b=>decide (b<W.heap.size)) true ts args.toList ds p:=by
 obtain⟨as,h1,h2⟩:=K9 hk hA fun j t v h1 h2=>hv j t v h1 (by simpa using h2)
 obtain⟨_,hF⟩:=hF as h1 trivial
 have hrel:bn ⟨fun _=>False,W,fun _=>False,aZ,none⟩ [] (fun _=>False) aZ W:=
  {obj:=fun k o h=>by simp[look]at h,dx:=fun k o h=>by simp[look]at h,inj:=fun k k' o o' b N N' h=>by simp[look]at h,dom:=fun k x h=>by simp[aZ]at h,keep:=fun k x h=>h,lt:=fun k b N h=>by simp[aZ]at h,os:=rfl,tape:=rfl,output:=rfl,size:=Nat.le_refl _,block:=fun _ _ _=>rfl,gL:=fun b h=>h.elim,new:=fun k o b N h=>by simp[look]at h}
 have hM:aM ⟨fun _=>False,W,fun _=>False,aZ,none⟩ [] aZ=fun _=>False:=by
  funext b
  simp[aM,look]
 have hinv:=hF ⟨fun _=>False,W,fun _=>False,aZ,none⟩ (fun _=>False) (fun _=>True) aZ W _ rfl (fun b h=>h.elim) hrel (fun k h=>h.elim) (fun k _ _=>⟨id,trivial⟩) (by rw[hM];exact h2)
 rcases hinv with⟨fn',g1,g2,g3,g4⟩|⟨x,g1,_⟩
 ·have g5:=g4
  rw[show args.toList.toArray=args from by simp]at g5
  refine g5.mono fun e W' ⟨x,he,hx⟩=>?_
  obtain⟨β',q1,q2,q3⟩:=hx
  have:=q3.bool
  subst this
  have hbl:Below W.heap.size W W':=⟨q1.os,q1.tape,q1.output,q1.size,fun k hk=>q1.block k hk id⟩
  exact⟨he,hbl,LQ hl hbl hk hA hlt⟩
 ·exfalso
  simp only[callFunc,Sem.run_bind,run_program,Result.andThen_ok,hf,hb,Bool.false_eq_true,if_false]at g1
  split at g1<;>simp at g1
end
end Go.Am
