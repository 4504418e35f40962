/- The abstract machine: values, stores, the evaluator of regions and of code. Plain definitions; nothing is proved here. -/
import Derived.Orders
import Derived.Laws.Tables
import Derived.Laws.CopyRow
import Derived.Deep.AppendSrc
import Derived.Laws.MakeOwn
import Derived.Laws.Cells
import Derived.Deep.MidRow
import Derived.OrdersIn
import Derived.Laws.Small
import Derived.Laws.Slices
set_option linter.unusedVariables false
namespace Go.Am
theorem aa {p:Prop} (h:p:=by omega):p:=h
theorem ay.{u} {α:Type u} {a b:α}:(some a=some b)=(a=b):=Option.some.injEq a b
theorem bD {p:Prop} [Decidable p]:(decide p=true)=p:=decide_eq_true_eq
theorem bI {p:Prop} {x:Decidable p}:decide p=false↔¬p:=decide_eq_false_iff_not
theorem aT {n:Nat}:n<=n:=Nat.le_refl n
theorem bG {n:Nat}:(n:Int).toNat=n:=Int.toNat_natCast n
inductive AV where
 |bool (b:Bool)
 |int (k:IntKind) (n:Int)
 |rat (q:Rat) (n:Nat)
 |mag (N:Nat)
 |agg (l:List AV)
 |ak (es:Nat) (n:Nat) (f:Nat->AV)
 |eJ (b:Bool) (es:Nat) (n:Nat) (f:Nat->AV)
 |nil
 |void
 |str (s:List UInt8)
 |b9 (v:AV)
 |ptr (k idx es off:Nat) (path:List Nat)
 |own (k es start len:Nat)
 |func (f:FuncId) (caps:List AV)
 |tuple (l:List AV)
 |cC (c:Nat) (v:AV)
def nl (N:Nat):Nat:=if N=0 then 0 else N.log2/32+1
def aD (N i:Nat):Nat:=N/2^(32*i)%2^32
namespace AV
mutual
def size:AV->Nat
 |.rat _ _=>3
 |.agg l=>sizes l
 |_=>1
def sizes:List AV->Nat
 |[]=>0
 |a::l=>size a+sizes l
end
def isAgg:AV->Bool
 |.rat _ _=>true
 |.agg _=>true
 |_=>false
def isTuple:AV->Bool
 |.tuple _=>true
 |_=>false
def kids:AV->List AV
 |.rat q _=>[.bool (decide (q<0)),.mag q.num.natAbs,.mag (if q.den=1 then 0 else q.den)]
 |.agg l=>l
 |_=>[]
def pZ:AV->List Nat->Option AV
 |v,[]=>some v
 |v,i::p=>match v.kids[i]? with
  |some c=>pZ c p
  |none=>none
def ug:AV->List Nat->Nat
 |_,[]=>0
 |v,i::p=>match v.kids[i]? with
  |some c=>sizes (v.kids.take i)+ug c p
  |none=>0
def rY:AV->List Nat->AV->Option AV
 |_,[],x=>some x
 |v,i::p,x=>match v.kids[i]? with
  |some c=>match rY c p x with
   |some c'=>some (.agg (v.kids.set i c'))
   |none=>none
  |none=>none
mutual
def keys:AV->List Nat
 |.ptr k _ _ _ _=>[k]
 |.own k _ _ _=>[k]
 |.agg l=>bT l
 |.func _ l=>bT l
 |.tuple l=>bT l
 |.cC _ v=>keys v
 |_=>[]
def bT:List AV->List Nat
 |[]=>[]
 |a::l=>keys a++bT l
end
end AV
structure ax where
 row:Bool
 wr:Bool
 es:Nat
 len:Nat
 f:Nat->AV
abbrev aE:=List (Nat×ax)
def look {α:Type} (k:Nat):List (Nat×α)->Option α
 |[]=>none
 |(j,a)::l=>if j==k then some a else look k l
def put {α:Type} (k:Nat) (a:α):List (Nat×α)->List (Nat×α)
 |[]=>[(k,a)]
 |(j,b)::l=>if j==k then(k,a)::l else(j,b)::put k a l
def cut {α:Type} (k:Nat):List (Nat×α)->List (Nat×α)
 |[]=>[]
 |(j,b)::l=>if j==k then cut k l else(j,b)::cut k l
def az:List Prop->Prop
 |[]=>True
 |[p]=>p
 |p::l=>p/\az l
structure dZ where
 res:AV
 post:aE
 iL:List Prop
def dZ.need (r:dZ):Prop:=az r.iL
abbrev Spec:=Nat->List AV->aE->Option dZ
abbrev bz:=List (FuncId×Spec)
structure TI where
 desc:TypeDesc
 size:Nat
 bytes:Nat
 zero:AV
abbrev Types:=List (TypeId×TI)
def lG:TypeDesc->Bool
 |.struct _=>true
 |.array _ _=>true
 |_=>false
structure fm where
 val:AV
 cH:List (Nat×Option ax)
 iL:List Prop
def fm.need (r:fm):Prop:=az r.iL
def cI (v:AV):Option fm:=some ⟨v,[],[]⟩
mutual
def dF (st:aE):AV->Option AV
 |.own k es s n=>match look k st with
  |some o=>if o.row&&!o.wr&&o.es==es then some (.ak es n fun i=>o.f (i+s))else none
  |none=>none
 |.ptr _ _ _ _ _=>none
 |.agg l=>match fP st l with
  |some m=>some (.agg m)
  |none=>none
 |.func f l=>match fP st l with
  |some m=>if m.all (fun v=>!v.isAgg&&!v.isTuple)then some (.func f m)else none
  |none=>none
 |.tuple _=>none
 |.cC c v=>match dF st v with
  |some u=>some (.cC c u)
  |none=>none
 |v=>some v
def fP (st:aE):List AV->Option (List AV)
 |[]=>some []
 |a::l=>match dF st a,fP st l with
  |some b,some m=>some (b::m)
  |_,_=>none
end
def ofConst:Value->Option AV
 |.bool b=>some (.bool b)
 |.int k n=>some (.int k n)
 |.slice none 0 0=>some .nil
 |.pointer none=>some .void
 |.nilFunc=>some .void
 |.string s=>some (.str s.data.toList)
 |_=>none
def DC (op:BinOp) (k:IntKind) (a b:Int):Option fm:=
 match op with
 |.add=>cI (.int k (k.wrap (a+b)))
 |.sub=>cI (.int k (k.wrap (a-b)))
 |.mul=>cI (.int k (k.wrap (a*b)))
 |.quo=>some ⟨.int k (k.wrap (a.tdiv b)),[],[b≠0]⟩
 |.rem=>some ⟨.int k (a.tmod b),[],[b≠0]⟩
 |.and=>cI (.int k (k.wrap ((BitVec.ofInt k.bits a&&&BitVec.ofInt k.bits b).toNat:Int)))
 |.or=>cI (.int k (k.wrap ((BitVec.ofInt k.bits a|||BitVec.ofInt k.bits b).toNat:Int)))
 |.eql=>cI (.bool (a==b))
 |.neq=>cI (.bool (a !=b))
 |.lss=>cI (.bool (decide (a<b)))
 |.leq=>cI (.bool (decide (a<=b)))
 |.gtr=>cI (.bool (decide (a>b)))
 |.geq=>cI (.bool (decide (a>=b)))
 |_=>none
def isKind:IntKind->IntKind->Bool
 |.i8,.i8|.i16,.i16|.i32,.i32|.i64,.i64|.u8,.u8|.u16,.u16|.u32,.u32|.u64,.u64=>true
 |_,_=>false
def pg (T:Types) (t:TypeId) (op:BinOp) (x y:AV):Option fm:=
 match x,y with
 |.int k a,.int j b=>
  match op with
  |.shl=>some ⟨.int k (k.wrap (a*2^(min b.toNat k.bits))),[],[0<=b]⟩
  |.shr=>some ⟨.int k (a.fdiv (2^(min b.toNat k.bits))),[],[0<=b]⟩
  |_=>if isKind k j then DC op k a b else none
 |.bool a,.bool b=>
  match look t T with
  |some ⟨.bool,_,_,_⟩=>match op with
   |.eql=>cI (.bool (a==b))
   |.neq=>cI (.bool (a !=b))
   |_=>none
  |_=>none
 |_,_=>none
def Jz:TypeDesc->Bool
 |.slice _=>true
 |_=>false
def isSlice (T:Types) (t:TypeId):Bool:=match look t T with
 |some ti=>Jz ti.desc
 |none=>false
def El:AV->AV->Option Bool
 |.eJ b _ _ _,.nil=>some b
 |_,_=>none
def nJ:TypeDesc->Nat->Option Field
 |.struct fs,i=>fs[i]?
 |_,_=>none
def jF (T:Types) (v:AV) (i:Nat) (off:Nat) (t:TypeId):Option AV:=
 match v.kids[i]?,look t T with
 |some c,some ti=>if AV.sizes (v.kids.take i)==off&&c.size==ti.size&&c.isAgg==lG ti.desc&&ti.size !=0 then some c else none
 |_,_=>none
def elemAt (st:aE) (es:Nat) (x:AV) (i:Nat):Option (AV×Prop):=
 match x with
 |.ak e n f=>if e==es then some (.b9 (f i),i<n)else none
 |.mag N=>if es==1 then some (.b9 (.int .u32 (aD N i)),i<nl N)else none
 |.own k e s n=>if e==es then
   match look k st with
   |some o=>if o.row&&!o.wr&&o.es==e then some (.b9 (o.f (i+s)),i<n)else some (.ptr k (i+s) es 0 [],i<n)
   |none=>none
  else none
 |_=>none
def lenOf:AV->Option Nat
 |.ak _ n _=>some n
 |.mag N=>some (nl N)
 |.own _ _ _ n=>some n
 |.nil=>some 0
 |_=>none
def readAll (st:aE) (es:Nat):AV->Option (Nat×(Nat->AV))
 |.ak e n f=>if e==es then some (n,f)else none
 |.mag N=>if es==1 then some (nl N,fun i=>.int .u32 (aD N i))else none
 |.nil=>some (0,fun _=>.nil)
 |.own k e s n=>if e==es then
   match look k st with
   |some o=>if o.row&&o.es==e then some (n,fun i=>o.f (i+s))else none
   |none=>none
  else none
 |_=>none
def nth (l:List AV) (z:AV) (i:Nat):AV:=match l[i]? with
 |some v=>v
 |none=>z
def placeOf (T:Types):TypeDesc->Nat->Option (Nat×TypeId)
 |.struct fs,i=>match fs[i]? with
  |some f=>some (f.offset,f.type)
  |none=>none
 |.array _ e,i=>match look e T with
  |some ti=>some (i*ti.size,e)
  |none=>none
 |_,_=>none
def Fj (T:Types):TypeDesc->Bool
 |.struct fs=>fs.toList.all fun f=>(look f.type T).isSome
 |.array _ e=>(look e T).isSome
 |_=>false
def sZ (T:Types) (d:TypeDesc):List AV->List (Nat×AV)->Option (List AV)
 |l,[]=>some l
 |l,(i,x)::ps=>match placeOf T d i with
  |some (off,t)=>match jF T (.agg l) i off t with
   |some c=>if c.size==x.size&&c.isAgg==x.isAgg&&!x.isTuple then sZ T d (l.set i x) ps else none
   |none=>none
  |none=>none
def rT (es:Nat):List AV->List (Nat×AV)->Option (List AV)
 |l,[]=>some l
 |l,(i,x)::ps=>if x.size==es&&!x.isTuple&&decide (i<l.length)then rT es (l.set i x) ps else none
def fD (ρ:Operand->Option AV):List Operand->Option (List AV)
 |[]=>some []
 |x::l=>match ρ x,fD ρ l with
  |some a,some m=>if a.isTuple then none else some (a::m)
  |_,_=>none
def kE (ρ:Operand->Option AV):List (Nat×Operand)->Option (List (Nat×AV))
 |[]=>some []
 |(i,x)::l=>match ρ x,kE ρ l with
  |some a,some m=>some ((i,a)::m)
  |_,_=>none
def cX (ρ:Operand->Option AV) (d:Int):Option Operand->Option Int
 |none=>some d
 |some x=>match ρ x with
  |some (.int _ n)=>some n
  |_=>none
def jV (l:aE):List (Nat×Option ax):=l.map fun p=>(p.1,some p.2)
def gA (l:aE):List (Nat×Option ax):=l.map fun p=>(p.1,match p.2.es with
 |0=>none
 |_+1=>some p.2)
def pick (st:aE):List Nat->aE
 |[]=>[]
 |k::l=>match look k st with
  |some o=>put k o (pick st l)
  |none=>pick st l
def zG:FuncId×Spec:=(999999997,fun _ _ _=>none)
def Fq:bz->Bool
 |(f,_)::_=>f==999999997
 |[]=>false
def kG (T:Types) (Γ:bz) (K:Nat) (ρ:Operand->Option AV) (st:aE) (c:Call):Option fm:=
 match c.callee with
 |.value f=>match ρ f,fD ρ c.args.toList with
  |some (.func g caps),some args=>match look g Γ with
   |some s=>match s K (args++caps) st with
    |some r=>some ⟨r.res,gA r.post,r.iL⟩
    |none=>none
   |none=>none
  |_,_=>none
 |.builtin .len=>match c.argTypes[0]?,fD ρ c.args.toList with
  |some t,some [x]=>match look t T with
   |some ⟨.slice _,_,_,_⟩=>match lenOf x with
    |some n=>cI (.int .i64 n)
    |none=>none
   |some ⟨.array n _,_,_,_⟩=>cI (.int .i64 n)
   |_=>none
  |_,_=>none
 |.builtin .cap=>match c.argTypes[0]?,fD ρ c.args.toList with
  |some t,some [.nil]=>match look t T with
   |some ⟨.slice _,_,_,_⟩=>cI (.int .i64 0)
   |_=>none
  |_,_=>none
 |.builtin .append=>match c.argTypes[0]?,c.argTypes[1]?,fD ρ c.args.toList with
  |some t,some t',some [x,y]=>match look t T,look t' T with
   |some ⟨.slice e,_,_,_⟩,some ⟨.slice _,_,_,_⟩=>match look e T with
    |some ti=>match readAll st ti.size y,x with
     |some (m,g),.nil=>if ti.size==0||ti.zero.size !=ti.size||ti.zero.isTuple then none else
      some ⟨.own K ti.size 0 m,[(K,some ⟨true,true,ti.size,m,g⟩)],match Fq Γ with
       |true=>[m*(ti.bytes+1)*2<=2^47]
       |false=>[0<m/\m*(ti.bytes+1)*2<=2^47]⟩
     |some (m,g),.own k es 0 n=>match look k st with
      |some o=>if o.row&&o.wr&&o.es==es&&es==ti.size&&ti.size !=0&&ti.zero.size==ti.size&&!ti.zero.isTuple&&!(y.keys.contains k)then
        some ⟨.own K es 0 (n+m),[(k,none),(K,some ⟨true,true,es,n+m,fun i=>if i<n then o.f i else g (i-n)⟩)],[(n+m)*(ti.bytes+1)*2<=2^47]⟩
       else none
      |none=>none
     |_,_=>none
    |none=>none
   |some ⟨.slice e,_,_,_⟩,some ⟨.int k',_,_,_⟩=>match x,y,look e T with
    |.nil,.int .i64 n,some ti=>if k' !=.i64||ti.size==0||ti.zero.size !=ti.size||ti.zero.isTuple then none else
     some ⟨.own K ti.size 0 n.toNat,[(K,some ⟨true,true,ti.size,n.toNat,fun _=>ti.zero⟩)],[0<n/\n.toNat*(ti.bytes+1)*2<=2^47]⟩
    |_,_,_=>none
   |_,_=>none
  |_,_,_=>none
 |.builtin .copy=>match c.argTypes[0]?,c.argTypes[1]?,fD ρ c.args.toList with
  |some t,some t',some [x,y]=>match look t T,look t' T with
   |some ⟨.slice e,_,_,_⟩,some ⟨.slice _,_,_,_⟩=>match look e T with
    |some ti=>match readAll st ti.size y,x with
     |some (m,g),.own k es s n=>match look k st with
      |some o=>if o.row&&o.wr&&o.es==es&&es==ti.size&&!(y.keys.contains k)then
        some ⟨.int .i64 (min m n:Nat),[(k,some {o with f:=fun i=>if s<=i/\i<s+min m n then g (i-s)else o.f i})],[]⟩
       else none
      |none=>none
     |_,_=>none
    |none=>none
   |_,_=>none
  |_,_,_=>none
 |.builtin .clear=>match c.argTypes[0]?,fD ρ c.args.toList with
  |some t,some [.own k es s n]=>match look t T with
   |some ⟨.slice e,_,_,_⟩=>match look e T,look k st with
    |some ti,some o=>if o.row&&o.wr&&o.es==es&&es==ti.size&&ti.zero.size==ti.size&&!ti.zero.isTuple then
      some ⟨.tuple [],[(k,some {o with f:=fun i=>if s<=i/\i<s+n then ti.zero else o.f i})],[]⟩
     else none
    |_,_=>none
   |_=>none
  |_,_=>none
 |.builtin .min=>match fD ρ c.args.toList with
  |some [.int k a,.int j b]=>if isKind k j then cI (.int k (if b<a then b else a))else none
  |_=>none
 |.builtin .max=>match fD ρ c.args.toList with
  |some [.int k a,.int j b]=>if isKind k j then cI (.int k (if a<b then b else a))else none
  |_=>none
 |_=>none
def q9 (st:aE) (ti:TI):AV->Option fm
 |.b9 v=>if v.size==ti.size&&v.isAgg==lG ti.desc&&!v.isTuple then cI v else none
 |.ptr k idx es off path=>match look k st with
  |some o=>if o.es==es&&(o.f idx).ug path==off then
    match(o.f idx).pZ path with
    |some v=>if v.size==ti.size&&v.isAgg==lG ti.desc&&!v.isTuple then some ⟨v,[],[idx<o.len]⟩else none
    |none=>none
   else none
  |none=>none
 |_=>none
mutual
def nP (b:Bool):AV->AV->AV
 |.rat q n,.rat r m=>.rat (cond b q r) (cond b n m)
 |.agg l,.agg m=>match sR b l m with
  |some x=>.agg x
  |none=>if b=true then .agg l else .agg m
 |u,v=>if b=true then u else v
def sR (b:Bool):List AV->List AV->Option (List AV)
 |[],[]=>some []
 |u::l,v::m=>match sR b l m with
  |some x=>some (nP b u v::x)
  |none=>none
 |_,_=>none
end
def HA (b:Bool) (k:IntKind) (n:Int):AV->AV
 |.int k' m=>match isKind k k' with
  |true=>.int k (cond b n m)
  |false=>if b=true then .int k n else .int k' m
 |v=>if b=true then .int k n else v
def HF (b x:Bool):AV->AV
 |.bool y=>.bool (cond b x y)
 |v=>if b=true then .bool x else v
def E6 (b:Bool) (es n:Nat) (h:Nat->AV):AV->AV
 |.ak es' m g=>match Nat.beq es es' with
  |true=>.ak es (cond b n m) fun i=>cond b (h i) (g i)
  |false=>if b=true then .ak es n h else .ak es' m g
 |v=>if b=true then .ak es n h else v
def Aj (r:Bool) (idx:Nat) (u:AV) (f:Nat->AV):Nat->AV:=match r,u with
 |true,.rat q n=>fun j=>nP (j==idx) (.rat q n) (f j)
 |true,.agg l=>fun j=>nP (j==idx) (.agg l) (f j)
 |true,.ak es n h=>fun j=>E6 (j==idx) es n h (f j)
 |_,u=>fun j=>if j==idx then u else f j
def L6 (r:Bool) (idx:Nat) (u:AV) (f:Nat->AV):Nat->AV:=match r,u with
 |true,.int k n=>fun j=>HA (j==idx) k n (f j)
 |true,.bool x=>fun j=>HF (j==idx) x (f j)
 |r,u=>Aj r idx u f
def EW (z r:Bool) (idx:Nat) (u:AV) (f:Nat->AV):Nat->AV:=match z with
 |true=>L6 r idx u f
 |false=>Aj r idx u f
def xg (z:Bool) (st:aE) (ti:TI) (p x:AV):Option fm:=
 match p with
 |.ptr k idx es off path=>match look k st with
  |some o=>if o.es==es&&o.wr&&(o.f idx).ug path==off&&x.size==ti.size&&!x.isTuple then
    match(o.f idx).pZ path,(if o.row then dF st x else some x)with
    |some v,some y=>if v.size==ti.size&&y.size==ti.size&&v.isAgg==y.isAgg then
      match(o.f idx).rY path y with
      |some u=>some ⟨.tuple [],[(k,some {o with f:=EW z o.row idx u o.f})],[idx<o.len]⟩
      |none=>none
     else none
    |_,_=>none
   else none
  |none=>none
 |_=>none
def sr (es:Nat) (v:AV) (l h:Nat):Option AV:=
 match v with
 |.ak e _ f=>if e==es&&es !=0 then some (.ak e (h-l) fun i=>f (i+l))else none
 |.mag N=>if es==1 then some (.ak 1 (h-l) fun i=>.int .u32 (aD N (i+l)))else none
 |.own k e s _=>if e==es&&es !=0 then some (.own k e (s+l) (h-l))else none
 |.nil=>some .nil
 |_=>none
def AJ (st:aE) (ti:TI) (n:Nat) (v:AV) (a b:Int):Option fm:=
 match v with
 |.ptr k idx es off path=>match look k st with
  |some o=>match(o.f idx).pZ path with
   |some (.agg l)=>if o.es==es&&(o.f idx).ug path==off&&(l.all fun v=>v.size==ti.size)&&(AV.bT l).isEmpty&&ti.size !=0&&l.length==n then
     some ⟨.ak ti.size (b.toNat-a.toNat) (fun i=>nth l ti.zero (i+a.toNat)),[(k,some {o with wr:=false})],[idx<o.len,0<=a/\a<=b/\b<=n]⟩
    else none
   |_=>none
  |none=>none
 |_=>none
def isVoid:AV->Bool
 |.nil=>true
 |.void=>true
 |_=>false
def Ag (st:aE):AV->Option (Nat×ax)
 |.ptr k 0 es 0 []=>match look k st with
  |some o=>if !o.row&&o.es==es&&o.len==1&&(o.f 0).keys.isEmpty&&!(isVoid (o.f 0))then some (k,o)else none
  |none=>none
 |_=>none
def uE (st:aE):List AV->List AV
 |[]=>[]
 |v::l=>match Ag st v with
  |some (_,o)=>.b9 (o.f 0)::uE st l
  |none=>v::uE st l
def sY (st:aE):List AV->List (Nat×Option ax)
 |[]=>[]
 |v::l=>match Ag st v with
  |some (k,o)=>(k,some {o with wr:=false})::sY st l
  |none=>sY st l
def fT (T:Types) (Γ:bz) (K:Nat) (ρ:Operand->Option AV) (st:aE) (op:Op):Option fm:=
 match op with
 |.move x|.assign x=>match ρ x with
  |some v=>cI v
  |none=>none
 |.pick c a b=>match ρ c with
  |some (.bool t)=>match ρ a,ρ b with
   |some (.bool x),some (.bool y)=>cI (.bool (bif t then x else y))
   |some x,some y=>match t with
    |true=>cI x
    |false=>cI y
   |_,_=>none
  |_=>none
 |.alloc t=>match look t T with
  |some ti=>if ti.size==0||ti.zero.size !=ti.size||ti.zero.isTuple then none else some ⟨.ptr K 0 ti.size 0 [],[(K,some ⟨false,true,ti.size,1,fun _=>ti.zero⟩)],[]⟩
  |none=>none
 |.box _ x=>match ρ x with
  |some v=>if v.size==0||v.isTuple then none else some ⟨.ptr K 0 v.size 0 [],[(K,some ⟨false,true,v.size,1,fun _=>v⟩)],[]⟩
  |none=>none
 |.build t ps=>match look t T,kE ρ ps.toList with
  |some ti,some l=>if !Fj T ti.desc||!ti.zero.isAgg then none else match sZ T ti.desc ti.zero.kids l with
   |some m=>cI (.agg m)
   |none=>none
  |_,_=>none
 |.buildSlice t n ps=>match look t T,kE ρ ps.toList with
  |some ⟨.slice e,_,_,_⟩,some l=>match look e T with
   |some ti=>if ti.size==0||ti.zero.size !=ti.size||ti.zero.isTuple then none else match rT ti.size (List.replicate n ti.zero) l with
    |some m=>match fP st m with
     |some m'=>some ⟨.own K ti.size 0 n,[(K,some ⟨true,true,ti.size,n,nth m' ti.zero⟩)],[n*ti.size<=2^24]⟩
     |none=>none
    |none=>none
   |none=>none
  |_,_=>none
 |.load t a=>match look t T,ρ a with
  |some ti,some p=>q9 st ti p
  |_,_=>none
 |.store t a x=>match look t T,ρ a,ρ x with
  |some ti,some p,some v=>xg (Fq Γ) st ti p v
  |_,_,_=>none
 |.nilCheck x=>match ρ x with
  |some (.ptr k i es o p)=>cI (.ptr k i es o p)
  |some (.b9 v)=>cI (.b9 v)
  |some (.func f c)=>cI (.func f c)
  |_=>none
 |.binOp o t x y _=>match ρ x,ρ y with
  |some a,some b=>pg T t o a b
  |_,_=>none
 |.unOp o _ x=>match o,ρ x with
  |.not,some (.bool b)=>cI (.bool (!b))
  |.neg,some (.int k n)=>cI (.int k (k.wrap (0-n)))
  |.xor,some (.int k n)=>cI (.int k (k.wrap ((BitVec.ofInt k.bits (if k.signed then-1 else k.max)^^^BitVec.ofInt k.bits n).toNat:Int)))
  |_,_=>none
 |.convert s d x=>match look s T,look d T,ρ x with
  |some ⟨.int _,_,_,_⟩,some ⟨.int k,_,_,_⟩,some (.int _ n)=>cI (.int k (k.wrap n))
  |_,_,_=>none
 |.sliceToArrayPointer t x=>match look t T,ρ x with
  |some ⟨.array m e,_,_,_⟩,some (.ak es n f)=>match look e T with
   |some ti=>if ti.size==es&&m !=0 then some ⟨.b9 (.agg ((List.range m).map f)),[],[m<=n]⟩else none
   |none=>none
  |_,_=>none
 |.makeSlice t l c=>match look t T,ρ l,ρ c with
  |some ⟨.slice e,_,_,_⟩,some (.int .i64 n),some (.int .i64 m)=>match look e T with
   |some ti=>if ti.size==0||ti.zero.size !=ti.size||ti.zero.isTuple then none else
    some ⟨.own K ti.size 0 n.toNat,[(K,some ⟨true,true,ti.size,n.toNat,fun _=>ti.zero⟩)],[0<=n/\n<=m/\m<=2^47/\m*ti.bytes<=2^47]⟩
   |none=>none
  |_,_,_=>none
 |.slice t x lo hi mx=>match look t T,ρ x with
  |some ⟨.slice e,_,_,_⟩,some v=>match look e T,lenOf v with
   |some ti,some len=>match cX ρ 0 lo,cX ρ len hi with
    |some l,some h=>match cX ρ h mx with
     |some m=>if mx.isSome&&hi.isNone then none else match sr ti.size v l.toNat h.toNat with
      |some u=>some ⟨u,[],[0<=l/\l<=h/\h<=m/\m<=len]⟩
      |none=>none
     |none=>none
    |_,_=>none
   |_,_=>none
  |some ⟨.array n e,_,_,_⟩,some v=>match mx with
   |none=>match look e T,cX ρ 0 lo,cX ρ n hi with
    |some ti,some a,some b=>AJ st ti n v a b
    |_,_,_=>none
   |some _=>none
  |_,_=>none
 |.fieldAddr s x i=>match look s T,ρ x with
  |some ti,some p=>match nJ ti.desc i with
   |some fd=>match p with
    |.b9 v=>match jF T v i fd.offset fd.type with
     |some c=>cI (.b9 c)
     |none=>none
    |.ptr k idx es off path=>match look fd.type T with
     |some fi=>if fi.size==0 then none else cI (.ptr k idx es (off+fd.offset) (path++[i]))
     |none=>none
    |_=>none
   |none=>none
  |_,_=>none
 |.field s x i=>match look s T,ρ x with
  |some ti,some v=>match nJ ti.desc i with
   |some fd=>match jF T v i fd.offset fd.type with
    |some c=>cI c
    |none=>none
   |none=>none
  |_,_=>none
 |.indexAddr t x ix=>match look t T,ρ x,ρ ix with
  |some ⟨.array n e,_,_,_⟩,some p,some (.int _ i)=>match look e T with
   |some ti=>if ti.size==0 then none else match p with
    |.b9 v=>match jF T v i.toNat (i.toNat*ti.size) e with
     |some c=>some ⟨.b9 c,[],[0<=i/\i<n]⟩
     |none=>none
    |.ptr k idx es off path=>some ⟨.ptr k idx es (off+i.toNat*ti.size) (path++[i.toNat]),[],[0<=i/\i<n]⟩
    |_=>none
   |none=>none
  |some ⟨.slice e,_,_,_⟩,some v,some (.int _ i)=>match look e T with
   |some ti=>if ti.size==0 then none else match elemAt st ti.size v i.toNat with
    |some (r,need)=>some ⟨r,[],[0<=i/\need]⟩
    |none=>none
   |none=>none
  |_,_,_=>none
 |.index t x ix=>match look t T,ρ x,ρ ix with
  |some ⟨.array n e,_,_,_⟩,some v,some (.int _ i)=>match look e T with
   |some ti=>match jF T v i.toNat (i.toNat*ti.size) e with
    |some c=>some ⟨c,[],[0<=i/\i<n]⟩
    |none=>none
   |none=>none
  |_,_,_=>none
 |.extract x i=>match ρ x with
  |some (.tuple l)=>match l[i]? with
   |some v=>cI v
   |none=>none
  |_=>none
 |.makeFunc (.func f) first caps=>match first.toList,fD ρ caps.toList with
  |[],some l=>if l.all (fun v=>!v.isAgg&&!v.isTuple)&&(uE st l).all (fun v=>!v.isAgg&&!v.isTuple)then some ⟨.func f (uE st l),sY st l,[]⟩else none
  |_,_=>none
 |.call c=>kG T Γ K ρ st c
 |_=>none
def eC:AV->AV
 |.eJ _ es n f=>.ak es n f
 |.cC _ v=>v
 |v=>v
def fz (ρ:Operand->Option AV) (x:Operand):Option AV:=match ρ x with
 |some v=>some (eC v)
 |none=>none
def qz (T:Types) (ρ:Operand->Option AV):Op->Option AV
 |.binOp o t x y _=>match ρ x,ρ y with
  |some a,some b=>match El a b,isSlice T t with
   |some b,true=>match o with
    |.eql=>some (.bool b)
    |.neq=>some (.bool (!b))
    |_=>none
   |_,_=>none
  |_,_=>none
 |_=>none
def isString:TypeDesc->Bool
 |.string=>true
 |_=>false
def nK (s:ByteArray) (i:Nat):Nat:=match s.data[i]? with
 |some b=>b.toNat
 |none=>0
def bytesOf (f:Nat->AV):Nat->Option (List UInt8)
 |0=>some []
 |n+1=>match bytesOf f n,f n with
  |some l,.int .u8 b=>some (l++[UInt8.ofNat b.toNat])
  |_,_=>none
def qP (T:Types) (st:aE) (ρ:Operand->Option AV):Op->Option fm
 |.binOp o _ x y _=>match ρ x,ρ y with
  |some (.str a),some (.str b)=>match o with
   |.add=>match Nat.ble (a.length+b.length) 1000000 with
    |true=>cI (.str (a++b))
    |false=>none
   |.eql=>cI (.bool (a==b))
   |.neq=>cI (.bool (!(a==b)))
   |_=>none
  |_,_=>none
 |.convert s d x=>match look s T,look d T,ρ x with
  |some ⟨.slice e,_,_,_⟩,some ⟨.string,_,_,_⟩,some v=>match look e T with
   |some ⟨.int .u8,_,_,_⟩=>match readAll st 1 v with
    |some (n,f)=>match bytesOf f n with
     |some l=>cI (.str l)
     |none=>none
    |none=>none
   |_=>none
  |_,_,_=>none
 |.index t (.const (.string s)) ix=>match ρ ix,look t T with
  |some (.int _ i),some ti=>if isString ti.desc then some ⟨.int .u8 (nK s i.toNat),[],[0<=i/\i<s.size]⟩else none
  |_,_=>none
 |_=>none
def Mz:Op->Bool
 |.move _=>true
 |.assign _=>true
 |_=>false
def sG:FuncId×Spec:=(999999999,fun _ _ _=>none)
def aaP:bz->Bool
 |(f,_)::_=>f==999999999
 |[]=>false
def wC (T:Types) (ρ:Operand->Option AV) (st:aE):Op->Bool
 |.load _ a=>match ρ a with
  |some (.ptr k idx _ _ _)=>match look k st with
   |some o=>Nat.blt idx o.len
   |none=>false
  |_=>false
 |.store _ a _=>match ρ a with
  |some (.ptr k idx _ _ _)=>match look k st with
   |some o=>Nat.blt idx o.len
   |none=>false
  |_=>false
 |.indexAddr t x ix=>match look t T,ρ x,ρ ix with
  |some ⟨.array n _,_,_,_⟩,_,some (.int _ i)=>decide (0<=i/\i<n)
  |some ⟨.slice _,_,_,_⟩,some v,some (.int _ i)=>match lenOf v with
   |some n=>decide (0<=i)&&Nat.blt i.toNat n
   |none=>false
  |_,_,_=>false
 |.index t _ ix=>match look t T,ρ ix with
  |some ⟨.array n _,_,_,_⟩,some (.int _ i)=>decide (0<=i/\i<n)
  |_,_=>false
 |.slice _ x lo hi mx=>match ρ x with
  |some v=>match lenOf v with
   |some len=>match cX ρ 0 lo,cX ρ len hi with
    |some l,some h=>match cX ρ h mx with
     |some m=>decide (0<=l/\l<=h/\h<=m/\m<=len)
     |none=>false
    |_,_=>false
   |none=>false
  |none=>false
 |.buildSlice t n _=>match look t T with
  |some ⟨.slice e,_,_,_⟩=>match look e T with
   |some ti=>Nat.ble (n*ti.size) (2^24)
   |none=>false
  |_=>false
 |_=>false
def nG:FuncId×Spec:=(999999998,fun _ _ _=>none)
def U8:bz->Bool
 |(f,_)::_=>f==999999998||(f==999999997||f==999999996)
 |[]=>false
def BL:IntKind->Bool
 |.i64=>true
 |_=>false
def uS (T:Types) (ρ:Operand->Option AV):Op->Option Int
 |.binOp o _ x y _=>match ρ x,ρ y with
  |some (.int k a),some (.int j b)=>match BL k,BL j with
   |true,true=>match o with
    |.add=>some (a+b)
    |.sub=>some (a-b)
    |.mul=>some (a*b)
    |_=>none
   |_,_=>none
  |_,_=>none
 |.convert s d x=>match look s T,look d T,ρ x with
  |some ⟨.int _,_,_,_⟩,some ⟨.int k,_,_,_⟩,some (.int _ n)=>match BL k with
   |true=>some n
   |false=>none
  |_,_,_=>none
 |_=>none
def qw (T:Types) (Γ:bz) (K:Nat) (ρ:Operand->Option AV) (st:aE) (op:Op):Option fm:=
 match aaP Γ with
 |true=>match wC T ρ st op with
  |true=>match fT T Γ K ρ st op with
   |some r=>some ⟨r.val,r.cH,[]⟩
   |none=>none
  |false=>fT T Γ K ρ st op
 |false=>match U8 Γ with
  |true=>match uS T ρ op with
   |some n=>some ⟨.int .i64 n,[],[-2^63<=n/\n<2^63]⟩
   |none=>fT T Γ K ρ st op
  |false=>fT T Γ K ρ st op
def DP:bz->Bool
 |(f,_)::_=>f==999999996
 |[]=>false
def vP (T:Types) (st:aE) (t t':TypeId) (cap k es n:Nat):Option AV->Option fm
 |some (.own k' es' s m)=>match look t T,look t' T with
  |some ⟨.slice e,_,_,_⟩,some ⟨.slice _,_,_,_⟩=>match look e T,look k st with
   |some ti,some o=>if k'==k&&es'==es&&o.row&&o.wr&&o.es==es&&es==ti.size&&ti.size !=0&&!ti.zero.isTuple then
     some ⟨.cC cap (.own k es 0 (n+m)),[(k,some {o with f:=fun i=>if n<=i/\i<n+m then o.f (i-n+s)else o.f i})],[n+m<=cap/\n+m<=o.len]⟩
    else none
   |_,_=>none
  |_,_=>none
 |_=>none
def mz (T:Types) (Γ:bz) (K:Nat) (ρ:Operand->Option AV) (st:aE):Op->Option fm
 |.makeSlice t l c=>match DP Γ with
  |true=>match fT T Γ K (fz ρ) st (.makeSlice t l c),fz ρ c with
   |some r,some (.int .i64 m)=>some ⟨.cC m.toNat r.val,r.cH,r.iL⟩
   |_,_=>none
  |false=>none
 |.slice t x lo hi none=>match ρ x with
  |some (.cC cap (.ak es n f))=>match look t T with
   |some ⟨.slice e,_,_,_⟩=>match look e T,cX ρ 0 lo,cX ρ n hi with
    |some ti,some l,some h=>if ti.size==es&&es !=0 then
      some ⟨.cC (cap-l.toNat) (.ak es (h.toNat-l.toNat) fun i=>f (i+l.toNat)),[],[0<=l/\l<=h/\h<=n]⟩else none
    |_,_,_=>none
   |_=>none
  |some (.cC cap (.own k es s n))=>match look t T with
   |some ⟨.slice e,_,_,_⟩=>match look e T,look k st,cX ρ 0 lo,cX ρ n hi with
    |some ti,some o,some l,some h=>if ti.size==es&&es !=0&&o.row&&o.es==es then
      some ⟨.cC (cap-l.toNat) (.own k es (s+l.toNat) (h.toNat-l.toNat)),[],[0<=l/\l<=h/\h<=cap/\s+h<=o.len]⟩else none
    |_,_,_,_=>none
   |_=>none
  |_=>none
 |.slice t x lo hi (some mx)=>match DP Γ with
  |true=>match fz ρ x with
   |some (.ak es n f)=>match look t T with
    |some ⟨.slice e,_,_,_⟩=>match look e T,cX ρ 0 lo,cX ρ n hi,cX ρ 0 (some mx)with
     |some ti,some l,some h,some m=>if ti.size==es&&es !=0&&hi.isSome then
       some ⟨.cC (m.toNat-l.toNat) (.ak es (h.toNat-l.toNat) fun i=>f (i+l.toNat)),[],[0<=l/\l<=h/\h<=m/\m<=n]⟩else none
     |_,_,_,_=>none
    |_=>none
   |_=>none
  |false=>none
 |.call c=>match c.callee with
  |.value _=>match DP Γ with
   |true=>kG T Γ K ρ st c
   |false=>none
  |.builtin .cap=>match c.argTypes[0]?,c.args.toList with
   |some t,[a]=>match look t T,ρ a with
    |some ⟨.slice _,_,_,_⟩,some (.cC n _)=>cI (.int .i64 n)
    |_,_=>none
   |_,_=>none
  |.builtin .append=>match c.argTypes[0]?,c.argTypes[1]?,c.args.toList with
   |some t,some t',[a,b]=>match ρ a with
    |some (.cC cap (.own k es 0 n))=>match vP T st t t' cap k es n (fz ρ b)with
     |some r=>some r
     |none=>match kG T Γ K (fz ρ) st c with
      |some ⟨.own K' es 0 nm,cH,iL⟩=>some ⟨.cC cap (.own K' es 0 nm),cH,(nm<=cap)::iL⟩
      |_=>none
    |some (.cC cap (.ak es n f))=>match look t T,look t' T,fz ρ b with
     |some ⟨.slice e,_,_,_⟩,some ⟨.slice _,_,_,_⟩,some y=>match look e T with
      |some ti=>match readAll st ti.size y with
       |some (m,g)=>if ti.size==0||ti.zero.size !=ti.size||ti.zero.isTuple||ti.size !=es then none else
        some ⟨.own K es 0 (n+m),[(K,some ⟨true,true,es,n+m,fun i=>if i<n then f i else g (i-n)⟩)],[cap<n+m/\(n+m)*(ti.bytes+1)*2<=2^47]⟩
       |none=>none
      |none=>none
     |some ⟨.slice e,_,_,_⟩,some ⟨.int .i64,_,_,_⟩,some (.int .i64 m)=>match look e T with
      |some ti=>if ti.size==0||ti.zero.size !=ti.size||ti.zero.isTuple||ti.size !=es then none else
       some ⟨.own K es 0 (n+m.toNat),[(K,some ⟨true,true,es,n+m.toNat,fun i=>if i<n then f i else ti.zero⟩)],[0<m/\cap<n+m.toNat/\(n+m.toNat)*(ti.bytes+1)*2<=2^47]⟩
      |none=>none
     |_,_,_=>none
    |_=>none
   |_,_,_=>none
  |_=>none
 |_=>none
def mc (T:Types) (Γ:bz) (K:Nat) (ρ:Operand->Option AV) (st:aE) (op:Op):Option fm:=
 match qz T ρ op with
 |some v=>cI v
 |none=>match qP T st ρ op with
  |some r=>some r
  |none=>match mz T Γ K ρ st op with
   |some r=>some r
   |none=>match Mz op with
    |true=>fT T Γ K ρ st op
    |false=>qw T Γ K (fz ρ) st op
structure aK where
 dB:List (Nat×AV)
 store:aE
 next:Nat
def aK.iI (s:aK):Operand->Option AV
 |.tmp t=>look t s.dB
 |.const v=>ofConst v
 |.func f=>some (.func f [])
 |.global _=>none
def de:List (Nat×Option ax)->aE->aE
 |[],st=>st
 |(k,some o)::l,st=>de l (put k o st)
 |(k,none)::l,st=>de l (cut k st)
def qC (dst:Option Tmp) (v:AV) (sl:List (Nat×AV)):List (Nat×AV):=
 match dst with
 |some d=>put d v sl
 |none=>sl
def qj (ops:List Oper) (sl:List (Nat×AV)) (o:Oper):Option Bool:=
 match o.guard with
 |none=>some true
 |some (g,want)=>match ops[g]? with
  |some p=>match p.dst with
   |some d=>match look d sl with
    |some (.bool b)=>some (match b,want with
     |true,true=>true
     |false,false=>true
     |_,_=>false)
    |some (.tuple [])=>some false
    |_=>none
   |none=>none
  |none=>none
structure Rec where
 res:fm
 asks:List Nat
def nk (ρ:Operand->Option AV):List Operand->List Nat
 |[]=>[]
 |x::l=>match ρ x with
  |some v=>v.keys++nk ρ l
  |none=>nk ρ l
def NX:Op->Option Operand
 |.fieldAddr _ x _=>some x
 |.indexAddr _ x _=>some x
 |_=>none
def rM (ρ:Operand->Option AV) (op:Op):List Nat:=match Mz op with
 |true=>[]
 |false=>match NX op with
  |some x=>match ρ x with
   |some (.ptr _ _ _ _ _)=>[]
   |_=>nk ρ op.operands.toList
  |none=>nk ρ op.operands.toList
def mX (st:aE):List Nat->List Nat
 |[]=>[]
 |k::l=>match look k st with
  |some o=>if o.row then mX st l else AV.keys (o.f 0)++mX st l
  |none=>mX st l
def sV (ρ:Operand->Option AV):Op->List Nat
 |.call c=>match c.callee with
  |.value f=>match ρ f with
   |some (.func _ l)=>AV.bT l
   |_=>[]
  |_=>[]
 |_=>[]
def nh (st:aE) (ρ:Operand->Option AV) (op:Op):List Nat:=match mX st (sV ρ op)with
 |[]=>rM ρ op
 |k::l=>rM ρ op++k::l
def dw:Nat:=4096
def kU (st:aE):aE:=st.map fun p=>(p.1,if p.2.row then {p.2 with wr:=false} else p.2)
def gm:aE->List (Nat×Option ax)
 |[]=>[]
 |(k,o)::l=>if o.row&&o.wr then(k,some {o with wr:=false})::gm l else gm l
def force {α:Type} (n:Nat) (k:Nat->α):α:=match n with
 |0=>k 0
 |m+1=>k (m+1)
theorem force_eq {α:Type} {n:Nat} {k:Nat->α}:force n k=k n:=by cases n<;>rfl
def guess (orc:List (Nat×Bool)) (i:Nat) (r:fm):fm:=
 match look i orc with
 |some t=>match r.val with
  |.bool b=>⟨.bool t,r.cH,(b=t)::r.iL⟩
  |_=>r
 |none=>r
def oz (T:Types) (Γ:bz) (orc:List (Nat×Bool)) (ops:List Oper) (s:aK) (i:Nat) (o:Oper):Option Rec:=
 match qj ops s.dB o with
 |some true=>
  let ks:=nh s.store s.iI o.op
  let st:=pick s.store ks
  force (s.next+dw*i) fun K=>match mc T Γ K s.iI st o.op with
  |some r=>some ⟨guess orc i r,ks⟩
  |none=>match gm st with
   |[]=>none
   |e=>match mc T Γ K s.iI (kU st) o.op with
    |some r=>some ⟨{guess orc i r with cH:=e++r.cH},ks⟩
    |none=>none
 |some false=>some ⟨⟨.tuple [],[],[]⟩,[]⟩
 |none=>none
def o9 (s:aK) (o:Oper) (r:fm):aK:=
 {s with dB:=qC o.dst r.val s.dB,store:=de r.cH s.store}
def lX (T:Types) (Γ:bz) (orc:List (Nat×Bool)) (ops:List Oper):List Oper->Nat->aK->Option (aK×List Prop×List Rec)
 |[],_,s=>some (s,[],[])
 |o::l,i,s=>match oz T Γ orc ops s i o with
  |some r=>match lX T Γ orc ops l (i+1) (o9 s o r.res)with
   |some (s',need,rs)=>some (s',r.res.iL++need,r::rs)
   |none=>none
  |none=>none
def Bg (ops:List Oper) (o:Oper):List Nat:=
 (o.op.operands.toList.filterMap fun|.tmp t=>some t|_=>none)++
 (match o.guard with
  |some (g,_)=>match ops[g]? with
   |some p=>p.dst.toList
   |none=>[]
  |none=>[])
def meet (a b:List Nat):Bool:=a.any fun x=>b.any fun y=>x==y
structure Touch where
 rd:List Nat
 wr:List Nat
 ask:List Nat
 cH:List Nat
def mN (ops:List Oper) (o:Oper) (r:Rec):Touch:=⟨Bg ops o,o.dst.toList,r.asks,r.res.cH.map (·.1)⟩
def Touch.nc (a b:Touch):Bool:=
 meet a.wr b.rd||meet a.wr b.wr||meet a.rd b.wr||meet a.cH b.ask||meet a.cH b.cH||meet a.ask b.cH
def rB:List Oper->List Nat->List Nat
 |[],acc=>acc
 |o::l,acc=>rB l (acc++[o.after.toList.foldl (fun m e=>if Region.binds .any e then m|||(1<<<e.on)|||acc.getD e.on 0 else m) 0])
def uK:List Oper->List Rec->List Nat->List Oper->List (Touch×Nat)
 |o::l,r::rs,a::as',ops=>(mN ops o r,a)::uK l rs as' ops
 |_,_,_,_=>[]
def yE (i:Nat) (t:Touch):List (Touch×Nat)->Bool
 |[]=>true
 |(u,a)::l=>(!(t.nc u)||a.testBit i)&&yE i t l
def uu:List (Touch×Nat)->Nat->Bool
 |[],_=>true
 |(t,_)::l,i=>yE i t l&&uu l (i+1)
def vT:List Oper->Nat->Bool
 |[],_=>true
 |o::l,i=>(o.after.toList.all fun e=>!(Region.binds .any e)||decide (e.on<i))&&vT l (i+1)
def sy (T:Types) (Γ:bz) (orc:List (Nat×Bool)) (ops:Array Oper) (draws:Bool) (s:aK):Option (aK×List Prop):=
 match lX T Γ orc ops.toList ops.toList 0 s with
 |some (s',need,rs)=>
  if !draws||vT ops.toList 0&&uu (uK ops.toList rs (rB ops.toList []) ops.toList) 0 then
   force (s.next+dw*ops.size) fun nx=>some ({s' with next:=nx},need)
  else none
 |none=>none
inductive aq where
 |normal
 |exit (id:Nat)
 |ret
def gl (T:Types) (Γ:bz):Nat->Code->aK->Option (aq×aK×List Prop)
 |0,_,_=>none
 |n+1,c,s=>match c with
  |.skip=>some (.normal,s,[])
  |.label _=>some (.normal,s,[])
  |.region _ ops d=>match sy T Γ [] ops d s with
   |some (s',p)=>some (.normal,s',p)
   |none=>none
  |.seq x y=>match gl T Γ n x s with
   |some (.normal,s',p)=>match gl T Γ n y s' with
    |some (e,s'',q)=>some (e,s'',p++q)
    |none=>none
   |r=>r
  |.cond b x y=>match s.iI b with
   |some (.bool t)=>match t with
    |true=>gl T Γ n x s
    |false=>gl T Γ n y s
   |_=>none
  |.block id x=>match gl T Γ n x s with
   |some (.exit j,s',p)=>if j==id then some (.normal,s',p)else some (.exit j,s',p)
   |r=>r
  |.loop x=>match gl T Γ n x s with
   |some (.normal,s',p)=>match gl T Γ n (.loop x) s' with
    |some (e,s'',q)=>some (e,s'',p++q)
    |none=>none
   |r=>r
  |.exit id=>some (.exit id,s,[])
  |.ret=>some (.ret,s,[])
  |_=>none
def aU:Nat->List AV->List (Nat×AV)
 |_,[]=>[]
 |i,a::l=>(i,a)::aU (i+1) l
def wJ (T:Types) (s:aK):ResultVar->Option (AV×List Prop)
 |.tmp t=>match look t s.dB with
  |some v=>if v.isTuple then none else some (v,[])
  |none=>none
 |.cell a t=>match look t T,look a s.dB with
  |some ti,some p=>match q9 s.store ti p with
   |some r=>some (r.val,r.iL)
   |none=>none
  |_,_=>none
def kW (T:Types) (s:aK):List ResultVar->Option (List AV×List Prop)
 |[]=>some ([],[])
 |x::l=>match wJ T s x,kW T s l with
  |some (v,p),some (vs,q)=>some (v::vs,p++q)
  |_,_=>none
def nO:List AV->AV
 |[v]=>v
 |l=>.tuple l
abbrev gP (f:Nat->AV):ax:=⟨false,true,3,1,f⟩
end Go.Am
namespace Go.Am
open AV
def Sz (q:Rat) (n:Nat):Prop:=q.num.natAbs<2^n/\q.den<2^n
def iz (M:Nat->Prop) (w:World) (b o:Nat) (ps:List Value):Prop:=
 ∃c ty fr,w.heap[b]?=some (.cells c ty fr)/\¬M b/\∀i v,ps[i]?=some v->c[o+i]?=some v
def u9 (N:Nat):List Value:=(List.range (nl N)).map fun i=>Value.int .u32 (aD N i)
abbrev aV:=Nat->Option (Nat×Nat×Nat)
def bE:aV:=fun _=>none
inductive aO (M:Nat->Prop) (w:World):aV->List AV->List Value->Prop
 |nil {β}:aO M w β [] []
 |bool {β b l cs}:aO M w β l cs->aO M w β (.bool b::l) (.bool b::cs)
 |int {β k n l cs}:aO M w β l cs->aO M w β (.int k n::l) (.int k n::cs)
 |rat {β q n x y l cs}:Sz q n->aO M w bE [.mag q.num.natAbs] [x]->aO M w bE [.mag (if q.den=1 then 0 else q.den)] [y]->aO M w β l cs->
   aO M w β (.rat q n::l) (.bool (decide (q<0))::x::y::cs)
 |mag {β N base cap l cs}:(N=0\/∃b o,base=some ⟨b,o,none⟩/\iz M w b o (u9 N))->nl N<=cap->aO M w β l cs->
   aO M w β (.mag N::l) (.slice base (nl N) cap::cs)
 |agg {β p ps l cs}:aO M w β p ps->aO M w β l cs->aO M w β (.agg p::l) (ps++cs)
 |ak {β es n f base cap l cs} {cf:Nat->List Value}:(n=0\/∃b o,base=some ⟨b,o,none⟩/\∀i,i<n->iz M w b (o+i*es) (cf i))->0<es->n<=cap->
   (∀i,i<n->(cf i).length=es)->(∀i,i<n->aO M w bE [f i] (cf i))->aO M w β l cs->
   aO M w β (.ak es n f::l) (.slice base n cap::cs)
 |eJ {β b es n f base cap l cs} {cf:Nat->List Value}:base.isNone=b->(n=0\/∃b o,base=some ⟨b,o,none⟩/\∀i,i<n->iz M w b (o+i*es) (cf i))->0<es->n<=cap->
   (∀i,i<n->(cf i).length=es)->(∀i,i<n->aO M w bE [f i] (cf i))->aO M w β l cs->
   aO M w β (.eJ b es n f::l) (.slice base n cap::cs)
 |vnil {β l cs}:aO M w β l cs->aO M w β (.nil::l) (.slice none 0 0::cs)
 |void {β x l cs}:x.oneCell'=true->aO M w β l cs->aO M w β (.void::l) (x::cs)
 |str {β s l cs}:aO M w β l cs->aO M w β (.str s::l) (.string ⟨s.toArray⟩::cs)
 |b9 {β v ps b o l cs}:aO M w bE [v] ps->iz M w b o ps->aO M w β l cs->
   aO M w β (.b9 v::l) (.pointer (some ⟨b,o,none⟩)::cs)
 |ptr {β k idx es off path b} {N:Nat×Nat} {l cs}:β k=some (b,N)->aO M w β l cs->
   aO M w β (.ptr k idx es off path::l) (.pointer (some ⟨b,idx*es+off,none⟩)::cs)
 |own {β k es s n cap b} {N:Nat×Nat} {o l cs}:β k=some (b,N)->s+cap<=N.1/\s+n<=N.2->n<=cap->(cap=0\/o=s*es)->0<es->aO M w β l cs->
   aO M w β (.own k es s n::l) (.slice (some ⟨b,o,none⟩) n cap::cs)
 |own0 {β k es l cs}:0<es->aO M w β l cs->aO M w β (.own k es 0 0::l) (.slice none 0 0::cs)
 |func {β f caps vs l cs}:aO M w β caps vs->(caps.all fun v=>!v.isAgg&&!v.isTuple)=true->aO M w β l cs->
   aO M w β (.func f caps::l) (.func (.func f) #[] vs.toArray::cs)
 |cC {β c v base n l cs}:v.isAgg=false->aO M w β [v] [.slice base n c]->aO M w β l cs->aO M w β (.cC c v::l) (.slice base n c::cs)
theorem iz.mono {M M':Nat->Prop} {w w':World} {b o:Nat} {ps:List Value}
  (hw:∀b o,¬M b->w.heap[b]?=some o->w'.heap[b]?=some o/\¬M' b) (h:iz M w b o ps):iz M' w' b o ps:=by
 obtain⟨c,ty,fr,h1,h2,h3⟩:=h
 obtain⟨h4,h5⟩:=hw b _ h2 h1
 exact⟨c,ty,fr,h4,h5,h3⟩
def HC (M:Nat->Prop) (w:World) (M':Nat->Prop) (w':World):Prop:=∀b c ty fr,¬M b->w.heap[b]?=some (.cells c ty fr)->w'.heap[b]?=some (.cells c ty fr)/\¬M' b
theorem iz.iN {M M':Nat->Prop} {w w':World} {b o:Nat} {ps:List Value} (hw:HC M w M' w') (h:iz M w b o ps):iz M' w' b o ps:=by
 obtain⟨c,ty,fr,h1,h2,h3⟩:=h
 obtain⟨h4,h5⟩:=hw b _ _ _ h2 h1
 exact⟨c,ty,fr,h4,h5,h3⟩
theorem aO.iN {M M':Nat->Prop} {w w':World} (hw:HC M w M' w')
  {β:aV} {l:List AV} {cs:List Value} (h:aO M w β l cs):∀β':aV,(∀k x,β k=some x->β' k=some x)->aO M' w' β' l cs:=by
 induction h with
 |nil=>exact fun _ _=>.nil
 |bool _ ih=>exact fun β' hb=>.bool (ih β' hb)
 |int _ ih=>exact fun β' hb=>.int (ih β' hb)
 |rat hs _ _ _ ih1 ih2 ih3=>exact fun β' hb=>.rat hs (ih1 _ fun _ _ h=>h) (ih2 _ fun _ _ h=>h) (ih3 β' hb)
 |mag hm hc _ ih=>exact fun β' hb=>.mag (hm.imp id fun⟨b,o,h1,h2⟩=>⟨b,o,h1,h2.iN hw⟩) hc (ih β' hb)
 |agg _ _ ih1 ih2=>exact fun β' hb=>.agg (ih1 β' hb) (ih2 β' hb)
 |ak hm h0 hc hl _ _ ih1 ih2=>exact fun β' hb=>.ak (hm.imp id fun⟨b,o,h1,h2⟩=>⟨b,o,h1,fun i hi=>(h2 i hi).iN hw⟩) h0 hc hl (fun i hi=>ih1 i hi _ fun _ _ h=>h) (ih2 β' hb)
 |eJ hq hm h0 hc hl _ _ ih1 ih2=>exact fun β' hb=>.eJ hq (hm.imp id fun⟨b,o,h1,h2⟩=>⟨b,o,h1,fun i hi=>(h2 i hi).iN hw⟩) h0 hc hl (fun i hi=>ih1 i hi _ fun _ _ h=>h) (ih2 β' hb)
 |vnil _ ih=>exact fun β' hb=>.vnil (ih β' hb)
 |void hx _ ih=>exact fun β' hb=>.void hx (ih β' hb)
 |str _ ih=>exact fun β' hb=>.str (ih β' hb)
 |b9 _ hm _ ih1 ih2=>exact fun β' hb=>.b9 (ih1 _ fun _ _ h=>h) (hm.iN hw) (ih2 β' hb)
 |ptr hk _ ih=>exact fun β' hb=>.ptr (hb _ _ hk) (ih β' hb)
 |own hk h1 h2 h4 h3 _ ih=>exact fun β' hb=>.own (hb _ _ hk) h1 h2 h4 h3 (ih β' hb)
 |own0 h3 _ ih=>exact fun β' hb=>.own0 h3 (ih β' hb)
 |func _ hc _ ih1 ih2=>exact fun β' hb=>.func (ih1 β' hb) hc (ih2 β' hb)
 |cC ha _ _ ih1 ih2=>exact fun β' hb=>.cC ha (ih1 β' hb) (ih2 β' hb)
theorem aO.mono {M M':Nat->Prop} {w w':World} (hw:∀b o,¬M b->w.heap[b]?=some o->w'.heap[b]?=some o/\¬M' b)
  {β:aV} {l:List AV} {cs:List Value} (h:aO M w β l cs):∀β':aV,(∀k x,β k=some x->β' k=some x)->aO M' w' β' l cs:=
 h.iN fun b _ _ _=>hw b _
theorem aO.length {M:Nat->Prop} {w:World} {β:aV} {l:List AV} {cs:List Value} (h:aO M w β l cs):cs.length=sizes l:=by
 induction h<;>simp_all [sizes,size]<;>omega
theorem aO.Dj {M:Nat->Prop} {w:World} {β:aV} {l:List AV} {cs:List Value} (h:aO M w β l cs):∀v∈cs,v.oneCell'=true:=by
 induction h with
 |nil=>simp
 |rat hs h1 h2 _ ih1 ih2 ih3=>
  intro v hv
  simp only[List.mem_cons]at hv
  rcases hv with rfl|rfl|rfl|hv
  ·rfl
  ·exact ih1 _ (by simp)
  ·exact ih2 _ (by simp)
  ·exact ih3 v hv
 |agg _ _ ih1 ih2=>
  intro v hv
  rcases List.mem_append.1 hv with hv|hv
  ·exact ih1 v hv
  ·exact ih2 v hv
 |ak _ _ _ _ _ _ _ ih2=>
  intro v hv
  rcases List.mem_cons.1 hv with rfl|hv
  ·rfl
  ·exact ih2 v hv
 |eJ _ _ _ _ _ _ _ _ ih2=>
  intro v hv
  rcases List.mem_cons.1 hv with rfl|hv
  ·rfl
  ·exact ih2 v hv
 |b9 _ _ _ _ ih2=>
  intro v hv
  rcases List.mem_cons.1 hv with rfl|hv
  ·rfl
  ·exact ih2 v hv
 |func _ _ _ _ ih2=>
  intro v hv
  rcases List.mem_cons.1 hv with rfl|hv
  ·rfl
  ·exact ih2 v hv
 |cC _ _ _ _ ih2=>
  intro v hv
  rcases List.mem_cons.1 hv with rfl|hv
  ·rfl
  ·exact ih2 v hv
 |void hx _ ih2=>
  intro v hv
  rcases List.mem_cons.1 hv with rfl|hv
  ·exact hx
  ·exact ih2 v hv
 |_=>
  rename_i ih
  intro v hv
  rcases List.mem_cons.1 hv with rfl|hv
  ·rfl
  ·exact ih v hv
theorem aO.append {M:Nat->Prop} {w:World} {β:aV} {l m:List AV} {cs ds:List Value} (h:aO M w β l cs) (h':aO M w β m ds):aO M w β (l++m) (cs++ds):=by
 induction h with
 |nil=>exact h'
 |bool _ ih=>exact .bool (ih h')
 |int _ ih=>exact .int (ih h')
 |rat hs h1 h2 _ _ _ ih3=>exact .rat hs h1 h2 (ih3 h')
 |mag hm hc _ ih=>exact .mag hm hc (ih h')
 |agg h1 _ _ ih2=>rw[List.append_assoc];exact .agg h1 (ih2 h')
 |ak hm h0 hc hl h1 _ _ ih2=>exact .ak hm h0 hc hl h1 (ih2 h')
 |eJ hq hm h0 hc hl h1 _ _ ih2=>exact .eJ hq hm h0 hc hl h1 (ih2 h')
 |vnil _ ih=>exact .vnil (ih h')
 |void hx _ ih=>exact .void hx (ih h')
 |str _ ih=>exact .str (ih h')
 |b9 h1 hm _ _ ih2=>exact .b9 h1 hm (ih2 h')
 |ptr hk _ ih=>exact .ptr hk (ih h')
 |own hk h1 h2 h4 h3 _ ih=>exact .own hk h1 h2 h4 h3 (ih h')
 |own0 h3 _ ih=>exact .own0 h3 (ih h')
 |func h1 hc _ _ ih2=>exact .func h1 hc (ih2 h')
 |cC ha h1 _ _ ih2=>exact .cC ha h1 (ih2 h')
theorem aO.split {M:Nat->Prop} {w:World} {β:aV} {a:AV} {l:List AV} {cs:List Value} (h:aO M w β (a::l) cs):
  ∃c1 c2,cs=c1++c2/\aO M w β [a] c1/\aO M w β l c2:=by
 cases h with
 |bool h=>exact⟨[_],_,rfl,.bool .nil,h⟩
 |int h=>exact⟨[_],_,rfl,.int .nil,h⟩
 |rat hs h1 h2 h=>exact⟨[_,_,_],_,rfl,.rat hs h1 h2 .nil,h⟩
 |mag hm hc h=>exact⟨[_],_,rfl,.mag hm hc .nil,h⟩
 |agg h1 h=>exact⟨_,_,rfl,by simpa using aO.agg h1 .nil,h⟩
 |ak hm h0 hc hl h1 h=>exact⟨[_],_,rfl,.ak hm h0 hc hl h1 .nil,h⟩
 |eJ hq hm h0 hc hl h1 h=>exact⟨[_],_,rfl,.eJ hq hm h0 hc hl h1 .nil,h⟩
 |vnil h=>exact⟨[_],_,rfl,.vnil .nil,h⟩
 |void hx h=>exact⟨[_],_,rfl,.void hx .nil,h⟩
 |str h=>exact⟨[_],_,rfl,.str .nil,h⟩
 |b9 h1 hm h=>exact⟨[_],_,rfl,.b9 h1 hm .nil,h⟩
 |ptr hk h=>exact⟨[_],_,rfl,.ptr hk .nil,h⟩
 |own hk h1 h2 h4 h3 h=>exact⟨[_],_,rfl,.own hk h1 h2 h4 h3 .nil,h⟩
 |own0 h3 h=>exact⟨[_],_,rfl,.own0 h3 .nil,h⟩
 |func h1 hc h=>exact⟨[_],_,rfl,.func h1 hc .nil,h⟩
 |cC ha h1 h=>exact⟨[_],_,rfl,.cC ha h1 .nil,h⟩
theorem aO.cons {M:Nat->Prop} {w:World} {β:aV} {a:AV} {l:List AV} {cs ds:List Value} (h:aO M w β [a] cs) (h':aO M w β l ds):
  aO M w β (a::l) (cs++ds):=h.append h'
theorem aO.at {M:Nat->Prop} {w:World} {β:aV}:∀{l:List AV} {cs:List Value} (_:aO M w β l cs) (i:Nat) (a:AV) (_:l[i]?=some a),
  ∃pr c po,cs=pr++(c++po)/\pr.length=sizes (l.take i)/\aO M w β [a] c/\∀a' c',aO M w β [a'] c'->aO M w β (l.set i a') (pr++(c'++po))
 |[],_,_,i,a,hi=>by simp at hi
 |b::l,cs,h,0,a,hi=>by
  obtain⟨c1,c2,rfl,h1,h2⟩:=h.split
  simp only[List.getElem?_cons_zero,ay]at hi
  subst hi
  exact⟨[],c1,c2,rfl,by simp[sizes],h1,fun a' c' h'=>h'.cons h2⟩
 |b::l,cs,h,i+1,a,hi=>by
  obtain⟨c1,c2,rfl,h1,h2⟩:=h.split
  obtain⟨pr,c,po,rfl,hp,hc,hs⟩:=aO.at h2 i a (by simpa using hi)
  refine⟨c1++pr,c,po,by simp,?_,hc,fun a' c' h'=>?_⟩
  ·have:=h1.length
   simp[sizes]at this
   simp[sizes,hp,this]
  ·simpa using h1.cons (hs a' c' h')
theorem aO.kids {M:Nat->Prop} {w:World} {β:aV} {v:AV} {cs:List Value} (h:aO M w β [v] cs) (hk:v.isAgg=true):aO M w β v.kids cs:=by
 cases h with
 |rat hs h1 h2 h=>
  cases h
  refine .bool (aO.cons (cs:=[_]) ?_ (aO.cons (cs:=[_]) (ds:=[]) ?_ .nil))
  ·exact h1.mono (fun b o h h'=>⟨h',h⟩) _ (fun k x h=>by simp[bE]at h)
  ·exact h2.mono (fun b o h h'=>⟨h',h⟩) _ (fun k x h=>by simp[bE]at h)
 |agg h1 h=>cases h;simpa [AV.kids]using h1
 |_=>cases hk
theorem GU {v c:AV} {i:Nat} (h:v.kids[i]?=some c):v.isAgg=true:=by
 cases v<;>simp[AV.kids]at h<;>rfl
theorem aO.path {M:Nat->Prop} {w:World} {β:aV}:∀(p:List Nat) {v:AV} {cs:List Value} (_:aO M w β [v] cs) (c:AV) (_:v.pZ p=some c),
  ∃pr cc po,cs=pr++(cc++po)/\pr.length=v.ug p/\aO M w β [c] cc/\
   ∀x u cx,aO M w β [x] cx->v.rY p x=some u->aO M w β [u] (pr++(cx++po))
 |[],v,cs,h,c,hc=>by
  simp only[pZ,ay]at hc
  subst hc
  refine⟨[],cs,[],by simp,by simp[ug],h,fun x u cx hx hu=>?_⟩
  simp only[rY,ay]at hu
  subst hu
  simpa using hx
 |i::p,v,cs,h,c,hc=>by
  simp only[pZ]at hc
  cases hk:v.kids[i]? with
  |none=>rw[hk]at hc;simp at hc
  |some d=>
   rw[hk]at hc
   simp only at hc
   obtain⟨pr,cd,po,rfl,hpr,hcd,hset⟩:=(h.kids (GU hk)).at i d hk
   obtain⟨pr',cc,po',rfl,hpr',hcc,hset'⟩:=aO.path p hcd c hc
   refine⟨pr++pr',cc,po'++po,by simp,by simp[ug,hk,hpr,hpr'],hcc,fun x u cx hx hu=>?_⟩
   simp only[rY,hk]at hu
   cases hs:d.rY p x with
   |none=>rw[hs]at hu;simp at hu
   |some d'=>
    rw[hs]at hu
    simp only[ay]at hu
    subst hu
    have:=hset d' _ (hset' x d' cx hx hs)
    have h2:=aO.agg (l:=[]) (cs:=[]) this .nil
    simpa using h2
def bF (M:Nat->Prop) (w:World) (β:aV) (v:AV) (x:Value):Prop:=
 ∃cs,aO M w β [v] cs/\((v.isAgg=true/\x=.agg cs.toArray)\/(v.isAgg=false/\cs=[x]))
def cS (M:Nat->Prop) (w:World) (β:aV):List AV->List Value->Prop
 |[],[]=>True
 |a::l,x::xs=>bF M w β a x/\cS M w β l xs
 |_,_=>False
def bP (M:Nat->Prop) (w:World) (β:aV) (v:AV) (x:Value):Prop:=
 match v with
 |.tuple l=>∃vs:List Value,x=.tuple vs.toArray/\cS M w β l vs
 |v=>bF M w β v x
theorem bP.Eh {M:Nat->Prop} {w:World} {β:aV} {v:AV} {x:Value} (h:v.isTuple=false):bP M w β v x=bF M w β v x:=by
 cases v<;>first|rfl|simp[isTuple]at h
theorem bF.aft {M:Nat->Prop} {w:World} {β:aV} {v:AV} {x:Value} (h:bF M w β v x):v.isTuple=false:=by
 obtain⟨cs,h,_⟩:=h
 cases v<;>first|rfl|cases h
theorem bF.bY {M:Nat->Prop} {w:World} {β:aV} {v:AV} {x:Value} (h:bF M w β v x):bP M w β v x:=by
 rw[bP.Eh h.aft];exact h
theorem bF.iN {M M':Nat->Prop} {w w':World} (hw:HC M w M' w')
  {β β':aV} (hb:∀k x,β k=some x->β' k=some x) {v:AV} {x:Value} (h:bF M w β v x):bF M' w' β' v x:=by
 obtain⟨cs,h1,h2⟩:=h
 exact⟨cs,h1.iN hw β' hb,h2⟩
theorem cS.iN {M M':Nat->Prop} {w w':World} (hw:HC M w M' w')
  {β β':aV} (hb:∀k x,β k=some x->β' k=some x):∀{l:List AV} {xs:List Value},cS M w β l xs->cS M' w' β' l xs
 |[],[],_=>trivial
 |_::_,_::_,h=>⟨h.1.iN hw hb,cS.iN hw hb h.2⟩
 |[],_::_,h=>h.elim
 |_::_,[],h=>h.elim
theorem bP.iN {M M':Nat->Prop} {w w':World} (hw:HC M w M' w')
  {β β':aV} (hb:∀k x,β k=some x->β' k=some x) {v:AV} {x:Value} (h:bP M w β v x):bP M' w' β' v x:=by
 by_cases hv:v.isTuple=true
 ·cases v<;>simp[isTuple]at hv
  obtain⟨vs,h1,h2⟩:=h
  exact⟨vs,h1,h2.iN hw hb⟩
 ·rw[bP.Eh (by simpa using hv)]at*
  exact h.iN hw hb
theorem bF.mono {M M':Nat->Prop} {w w':World} (hw:∀b o,¬M b->w.heap[b]?=some o->w'.heap[b]?=some o/\¬M' b)
  {β β':aV} (hb:∀k x,β k=some x->β' k=some x) {v:AV} {x:Value} (h:bF M w β v x):bF M' w' β' v x:=h.iN (fun b _ _ _=>hw b _) hb
theorem cS.mono {M M':Nat->Prop} {w w':World} (hw:∀b o,¬M b->w.heap[b]?=some o->w'.heap[b]?=some o/\¬M' b)
  {β β':aV} (hb:∀k x,β k=some x->β' k=some x) {l:List AV} {xs:List Value} (h:cS M w β l xs):cS M' w' β' l xs:=cS.iN (fun b _ _ _=>hw b _) hb h
theorem bP.mono {M M':Nat->Prop} {w w':World} (hw:∀b o,¬M b->w.heap[b]?=some o->w'.heap[b]?=some o/\¬M' b)
  {β β':aV} (hb:∀k x,β k=some x->β' k=some x) {v:AV} {x:Value} (h:bP M w β v x):bP M' w' β' v x:=h.iN (fun b _ _ _=>hw b _) hb
theorem bF.cells {M:Nat->Prop} {w:World} {β:aV} {v:AV} {x:Value} (h:bF M w β v x):aO M w β [v] x.cells.toList:=by
 obtain⟨cs,h1,h2⟩:=h
 rcases h2 with⟨h2,rfl⟩|⟨h2,rfl⟩
 ·simpa [Value.cells]using h1
 ·have hx:=h1.Dj x (by simp)
  cases x<;>first|(simp[Value.oneCell']at hx;done)|simpa [Value.cells]using h1
theorem bF.zo {M:Nat->Prop} {w:World} {β:aV} {v:AV} {cs:List Value} (h:aO M w β [v] cs) (hv:v.isAgg=true):bF M w β v (.agg cs.toArray):=
 ⟨cs,h,.inl ⟨hv,rfl⟩⟩
theorem bF.cK {M:Nat->Prop} {w:World} {β:aV} {v:AV} {x:Value} (h:aO M w β [v] [x]) (hv:v.isAgg=false):bF M w β v x:=
 ⟨[x],h,.inr ⟨hv,rfl⟩⟩
theorem bF.cell {M:Nat->Prop} {w:World} {β:aV} {v:AV} {x:Value} (h:bF M w β v x) (hv:v.isAgg=false):aO M w β [v] [x]:=by
 obtain⟨cs,h1,h2⟩:=h
 rcases h2 with⟨h2,_⟩|⟨_,rfl⟩
 ·simp[hv]at h2
 ·exact h1
theorem Au {M:Nat->Prop} {w:World} {β:aV} {l:List AV} {cs:List Value} (h:aO M w β l cs):bT l=[]->aO M w bE l cs:=by
 induction h with
 |nil=>exact fun _=>.nil
 |bool _ ih=>exact fun hk=>.bool (ih (by simpa [bT,keys]using hk))
 |int _ ih=>exact fun hk=>.int (ih (by simpa [bT,keys]using hk))
 |rat hs h1 h2 _ _ _ ih=>exact fun hk=>.rat hs h1 h2 (ih (by simpa [bT,keys]using hk))
 |mag h1 h2 _ ih=>exact fun hk=>.mag h1 h2 (ih (by simpa [bT,keys]using hk))
 |agg _ _ ih1 ih2=>exact fun hk=>.agg (ih1 (by simp[bT,keys]at hk;exact hk.1)) (ih2 (by simp[bT,keys]at hk;exact hk.2))
 |ak h1 h2 h3 h4 h5 _ _ ih=>exact fun hk=>.ak h1 h2 h3 h4 h5 (ih (by simpa [bT,keys]using hk))
 |eJ hq h1 h2 h3 h4 h5 _ _ ih=>exact fun hk=>.eJ hq h1 h2 h3 h4 h5 (ih (by simpa [bT,keys]using hk))
 |vnil _ ih=>exact fun hk=>.vnil (ih (by simpa [bT,keys]using hk))
 |void hx _ ih=>exact fun hk=>.void hx (ih (by simpa [bT,keys]using hk))
 |str _ ih=>exact fun hk=>.str (ih (by simpa [bT,keys]using hk))
 |b9 h1 h2 _ _ ih=>exact fun hk=>.b9 h1 h2 (ih (by simpa [bT,keys]using hk))
 |ptr _ _ _=>exact fun hk=>by simp[bT,keys]at hk
 |own _ _ _ _ _ _ _=>exact fun hk=>by simp[bT,keys]at hk
 |own0 _ _ _=>exact fun hk=>by simp[bT,keys]at hk
 |func _ hc _ ih1 ih2=>exact fun hk=>.func (ih1 (by simp[bT,keys]at hk;exact hk.1)) hc (ih2 (by simp[bT,keys]at hk;exact hk.2))
 |cC ha _ _ ih1 ih2=>exact fun hk=>.cC ha (ih1 (by simp[bT,keys]at hk ⊢;exact hk.1)) (ih2 (by simp[bT,keys]at hk;exact hk.2))
structure Ctx where
 Mf:Nat->Prop
 w0:World
 Mw:Nat->Prop
 k0:aV
 ro:Option Nat:=none
def aN (c:Ctx) (st:aE) (β:aV):Nat->Prop:=fun b=>c.Mf b\/∃k o,∃N:Nat×Nat,look k st=some o/\o.wr=true/\β k=some (b,N)
def CF (M:Nat->Prop) (w:World) (β:aV) (k:Nat) (o:ax):Prop:=
 ∃b,∃N:Nat×Nat,∃cs ty,β k=some (b,N)/\w.heap[b]?=some (.cells cs ty (0,0))/\cs.size=N.1*o.es/\0<o.es/\(o.len=N.2/\o.len<=N.1)/\(o.wr=true->M b)/\(o.wr=false->¬M b)/\
  ∀i,i<o.len->∃ps,ps.length=o.es/\aO M w (if o.row then bE else β) [o.f i] ps/\∀j v,ps[j]?=some v->cs[i*o.es+j]?=some v
structure bB (c:Ctx) (st:aE) (D:Nat->Prop) (β:aV) (w:World):Prop where
 obj:∀k o,look k st=some o->∀x,β k=some x->CF (aN c st β) w β k o
 eG:∀k o,look k st=some o->β k=none->(o.row=true/\o.len=0/\0<o.es)/\D k
 inj:∀k k' o o' b (N N':Nat×Nat),look k st=some o->look k' st=some o'->o.wr=true->β k=some (b,N)->β k'=some (b,N')->k=k'
 dom:∀k x,β k=some x->D k
 keep:∀k x,c.k0 k=some x->β k=some x
 lt:∀k b (N:Nat×Nat),β k=some (b,N)->b<w.heap.size
 os:w.os=c.w0.os
 tape:w.tape=c.w0.tape
 output:w.output=c.w0.output
 size:c.w0.heap.size<=w.heap.size
 block:∀b,b<c.w0.heap.size->¬c.Mw b->w.heap[b]?=c.w0.heap[b]?
 ig:∀b,c.Mf b->b<c.w0.heap.size/\¬c.Mw b
 new:∀k o b (N:Nat×Nat),look k st=some o->o.wr=true->β k=some (b,N)->c.w0.heap.size<=b\/c.Mw b
structure dH (M:Nat->Prop) (w:World) (β:aV) (M':Nat->Prop) (w':World) (β':aV):Prop where
 heap:∀b o,¬M b->w.heap[b]?=some o->w'.heap[b]?=some o/\¬M' b
 keys:∀k x,β k=some x->β' k=some x
theorem dH.refl (M:Nat->Prop) (w:World) (β:aV):dH M w β M w β:=⟨fun _ _ h h'=>⟨h',h⟩,fun _ _ h=>h⟩
theorem dH.trans {M M1 M2:Nat->Prop} {w w1 w2:World} {β β1 β2:aV} (h:dH M w β M1 w1 β1) (h':dH M1 w1 β1 M2 w2 β2):dH M w β M2 w2 β2:=
 ⟨fun b o hb ho=>let ⟨h1,h2⟩:=h.heap b o hb ho;h'.heap b o h2 h1,fun k x hk=>h'.keys k x (h.keys k x hk)⟩
theorem aO.iT {M M':Nat->Prop} {w w':World} {β β':aV} {l:List AV} {cs:List Value} (h:aO M w β l cs) (e:dH M w β M' w' β'):aO M' w' β' l cs:=
 h.mono e.heap β' e.keys
theorem aO.pE {M M':Nat->Prop} {w w':World} {β β':aV} {l:List AV} {cs:List Value} (h:aO M w bE l cs) (e:dH M w β M' w' β'):aO M' w' bE l cs:=
 h.mono e.heap bE fun _ _ h=>h
theorem aO.vO {M M':Nat->Prop} {w w':World} {β β':aV} {r:Bool} {l:List AV} {cs:List Value} (h:aO M w (if r then bE else β) l cs) (e:dH M w β M' w' β'):
  aO M' w' (if r then bE else β') l cs:=by
 cases r
 ·exact h.iT e
 ·exact h.pE e
theorem bF.iT {M M':Nat->Prop} {w w':World} {β β':aV} {v:AV} {x:Value} (h:bF M w β v x) (e:dH M w β M' w' β'):bF M' w' β' v x:=
 h.mono e.heap e.keys
theorem bP.iT {M M':Nat->Prop} {w w':World} {β β':aV} {v:AV} {x:Value} (h:bP M w β v x) (e:dH M w β M' w' β'):bP M' w' β' v x:=
 h.mono e.heap e.keys
section lists
variable {α:Type} {k j:Nat} {a:α} {l:List (Nat×α)}
theorem jr:look k (put k a l)=some a:=by
 induction l with
 |nil=>simp[put,look]
 |cons p l ih=>
  obtain⟨i,b⟩:=p
  simp only[put]
  by_cases h:(i==k)=true
  ·simp[h,look]
  ·simp[h,look,ih]
theorem gD (h:j≠k):look j (put k a l)=look j l:=by
 induction l with
 |nil=>simp[put,look];omega
 |cons p l ih=>
  obtain⟨i,b⟩:=p
  simp only[put]
  by_cases hi:(i==k)=true
  ·have:i=k:=by grind
   subst this
   have hne:¬i=j:=fun e=>h e.symm
   simp[look,hne]
  ·by_cases hj:(i==j)=true
   ·simp[hi,look,hj]
   ·simp[hi,look,hj,ih]
theorem wW:look j (put k a l)=if j=k then some a else look j l:=by
 split
 ·rename_i h;subst h;exact jr
 ·rename_i h;exact gD h
theorem Be:look j (cut k l)=if j=k then none else look j l:=by
 induction l with
 |nil=>simp[cut,look]
 |cons p l ih=>
  obtain⟨i,b⟩:=p
  simp only[cut]
  by_cases hi:i=k
  ·simp only[BEq.rfl,if_true,ih,look]
   grind
  ·have:(i==k)=false:=by grind
   simp only[this,Bool.false_eq_true,if_false,look,ih]
   grind
end lists
def aV.set (β:aV) (k:Nat) (x:Nat×Nat×Nat):aV:=fun j=>if j=k then some x else β j
theorem aV.gR (β:aV) (k:Nat) (x:Nat×Nat×Nat):β.set k x k=some x:=by simp[aV.set]
theorem aV.iD (β:aV) {k j:Nat} (x:Nat×Nat×Nat) (h:j≠k):β.set k x j=β j:=by simp[aV.set,h]
theorem lP {w:World} {b:Nat} {o:Obj} (h:w.heap[b]?=some o):b<w.heap.size:=by
 grind
theorem uf {w:World} {o:Obj} {b:Nat} (h:b<w.heap.size):(w.alloc o).heap[b]?=w.heap[b]?:=by
 show(w.heap.push o)[b]?=_
 grind
theorem ady {w:World} {o:Obj}:(w.alloc o).heap[w.heap.size]?=some o:=by
 show(w.heap.push o)[w.heap.size]?=_
 simp
section change
variable {c:Ctx} {st:aE} {D D':Nat->Prop} {β:aV} {w:World}
theorem bB.fresh (h:bB c st D β w) {K:Nat} (hK:¬D K):β K=none:=by
 cases hb:β K with
 |none=>rfl
 |some x=>exact absurd (h.dom _ _ hb) hK
theorem bB.unknown (h:bB c st D β w) {K:Nat} (hK:¬D K):look K st=none:=by
 cases hl:look K st with
 |none=>rfl
 |some o=>exact absurd (h.eG K o hl (h.fresh hK)).2 hK
theorem bB.mA (h:bB c st D β w) (hD:∀k,D k->D' k):bB c st D' β w:={h with dom:=fun k x hk=>hD _ (h.dom k x hk),eG:=fun k o hk hb=>⟨(h.eG k o hk hb).1,hD _ (h.eG k o hk hb).2⟩}
theorem bB.A5 (h:bB c st D β w) {k:Nat} {o:ax} {b:Nat} {N:Nat×Nat} (hk:look k st=some o) (hw:o.wr=true) (hb:β k=some (b,N)):¬c.Mf b:=fun hm=>by
 obtain⟨h1,h2⟩:=h.ig b hm
 rcases h.new k o b N hk hw hb with h3|h3
 all_goals grind
theorem bB.drew (h:bB c st D β w):bB c st D β w.drew:=by
 have e:dH (aN c st β) w β (aN c st β) w.drew β:=⟨fun b o h1 h2=>⟨h2,h1⟩,fun _ _ h=>h⟩
 refine {h with obj:=fun k o hk x hx=>?_}
 obtain⟨b,N,cs,ty,h1,h2,h3,h4,h5,h6,h7,h8⟩:=h.obj k o hk x hx
 refine⟨b,N,cs,ty,h1,h2,h3,h4,h5,h6,h7,fun i hi=>?_⟩
 obtain⟨ps,p1,p2,p3⟩:=h8 i hi
 exact⟨ps,p1,p2.vO e,p3⟩
theorem dH.drew {M:Nat->Prop}:dH M w β M w.drew β:=⟨fun _ _ h1 h2=>⟨h2,h1⟩,fun _ _ h=>h⟩
theorem bB.xJ {w':World} (h:bB c st D β w) (hh:∀(b:Nat) x ty fr,w.heap[b]?=some (Obj.cells x ty fr)->w'.heap[b]?=some (Obj.cells x ty fr)) (h1:w'.os=w.os) (h2:w'.tape=w.tape) (h3:w'.output=w.output)
  (h4:w.heap.size<=w'.heap.size) (h5:∀b,b<c.w0.heap.size->w'.heap[b]?=w.heap[b]?):bB c st D β w':=by
 refine {h with obj:=fun k o hk x hx=>?_,lt:=fun k b N hk=>Nat.lt_of_lt_of_le (h.lt k b N hk) h4,os:=h1.trans h.os,tape:=h2.trans h.tape,output:=h3.trans h.output,size:=Nat.le_trans h.size h4,block:=fun b hb hm=>(h5 b hb).trans (h.block b hb hm)}
 obtain⟨b,N,cs,ty,q1,q2,q3,q4,q5,q6,q7,q8⟩:=h.obj k o hk x hx
 refine⟨b,N,cs,ty,q1,hh _ _ _ _ q2,q3,q4,q5,q6,q7,fun i hi=>?_⟩
 obtain⟨ps,p1,p2,p3⟩:=q8 i hi
 exact⟨ps,p1,p2.iN (fun b _ _ _ m g=>⟨hh _ _ _ _ g,m⟩) _ fun _ _ h=>h,p3⟩
theorem CF.iT {M M':Nat->Prop} {w w':World} {β β':aV} {k:Nat} {o:ax} (h:CF M w β k o) (e:dH M w β M' w' β')
  (hk:∀b (N:Nat×Nat) cs ty,β k=some (b,N)->w.heap[b]?=some (.cells cs ty (0,0))->w'.heap[b]?=some (.cells cs ty (0,0)))
  (h1:∀b (N:Nat×Nat),β k=some (b,N)->o.wr=true->M' b):CF M' w' β' k o:=by
 obtain⟨b,N,cs,ty,a1,a2,a3,a4,a5,a6,a7,a8⟩:=h
 refine⟨b,N,cs,ty,e.keys _ _ a1,hk b N cs ty a1 a2,a3,a4,a5,h1 b N a1,fun hw=>(e.heap b _ (a7 hw) a2).2,fun i hi=>?_⟩
 obtain⟨ps,p1,p2,p3⟩:=a8 i hi
 exact⟨ps,p1,p2.vO e,p3⟩
theorem bB.alloc (h:bB c st D β w) {K:Nat} (hK:¬D K) (hD:∀k,D k->D' k) (hDK:D' K) {o:ax} (hw:o.wr=true) {cs:Array Value} {ty:TypeId} {N:Nat}
  (hs:cs.size=N*o.es) (h0:0<o.es) (hl:o.len<=N)
  (hc:∀i,i<o.len->∃ps,ps.length=o.es/\aO (aN c st β) w (if o.row then bE else β) [o.f i] ps/\∀j v,ps[j]?=some v->cs[i*o.es+j]?=some v):
  bB c (put K o st) D' (β.set K (w.heap.size,N,o.len)) (w.alloc (.cells cs ty))/\
   dH (aN c st β) w β (aN c (put K o st) (β.set K (w.heap.size,N,o.len))) (w.alloc (.cells cs ty)) (β.set K (w.heap.size,N,o.len)):=by
 have hbK:=h.fresh hK
 have hold:∀b x,w.heap[b]?=some x->(w.alloc (.cells cs ty)).heap[b]?=some x:=fun b x hx=>by
  rw[uf (lP hx)];omega
 have e:dH (aN c st β) w β (aN c (put K o st) (β.set K (w.heap.size,N,o.len))) (w.alloc (.cells cs ty)) (β.set K (w.heap.size,N,o.len)):=by
  refine⟨fun b x hb hx=>⟨hold b x hx,fun hm=>hb ?_⟩,fun k x hk=>?_⟩
  ·rcases hm with hm|⟨k,o',N',h1,h2,h3⟩
   ·exact .inl hm
   ·by_cases hkK:k=K
    ·subst hkK
     rw[aV.gR]at h3
     grind
    ·rw[gD hkK]at h1
     rw[aV.iD _ _ hkK]at h3
     exact .inr ⟨k,o',N',h1,h2,h3⟩
  ·have:k≠K:=fun e=>by grind
   rw[aV.iD _ _ this];omega
 refine⟨?_,e⟩
 have hsz:(w.alloc (.cells cs ty)).heap.size=w.heap.size+1:=World.size_alloc ..
 refine {obj:=?_,eG:=fun k o' hk hb=>?_,inj:=?_,dom:=?_,keep:=fun k x hk=>e.keys _ _ (h.keep k x hk),lt:=?_,os:=h.os,tape:=h.tape,output:=h.output,size:=by have:=h.size;omega,block:=?_,ig:=h.ig,new:=?_}
 ·intro k o' hk x hx
  by_cases hkK:k=K
  ·subst hkK
   rw[jr]at hk
   simp at hk
   subst hk
   refine⟨w.heap.size,(N,o.len),cs,ty,aV.gR _ _ _,ady,hs,h0,⟨rfl,hl⟩,fun _=>.inr ⟨k,o,(N,o.len),jr,hw,aV.gR _ _ _⟩,fun hf=>by simp[hw]at hf,fun i hi=>?_⟩
   obtain⟨ps,p1,p2,p3⟩:=hc i hi
   exact⟨ps,p1,p2.vO e,p3⟩
  ·rw[gD hkK]at hk
   rw[aV.iD _ _ hkK]at hx
   refine(h.obj k o' hk x hx).iT e (fun b N' cs' ty' _ hx=>hold b _ hx) (fun b N' hb ho=>.inr ⟨k,o',N',?_,ho,?_⟩)
   ·rw[gD hkK];exact hk
   ·rw[aV.iD _ _ hkK];exact hb
 ·by_cases hkK:k=K
  ·subst hkK;rw[aV.gR]at hb;simp at hb
  ·rw[gD hkK]at hk
   rw[aV.iD _ _ hkK]at hb
   exact⟨(h.eG k o' hk hb).1,hD _ (h.eG k o' hk hb).2⟩
 ·intro k k' o1 o2 b N1 N2 h1 h2 hw1 hb1 hb2
  by_cases hkK:k=K
  ·by_cases hkK':k'=K
   ·rw[hkK,hkK']
   ·subst hkK
    rw[aV.gR]at hb1
    rw[aV.iD _ _ hkK']at hb2
    have:=h.lt _ _ _ hb2
    simp at hb1;omega
  ·by_cases hkK':k'=K
   ·subst hkK'
    rw[aV.gR]at hb2
    rw[aV.iD _ _ hkK]at hb1
    have:=h.lt _ _ _ hb1
    simp at hb2;omega
   ·rw[gD hkK]at h1
    rw[gD hkK']at h2
    rw[aV.iD _ _ hkK]at hb1
    rw[aV.iD _ _ hkK']at hb2
    exact h.inj k k' o1 o2 b N1 N2 h1 h2 hw1 hb1 hb2
 ·intro k x hk
  by_cases hkK:k=K
  ·rw[hkK];exact hDK
  ·rw[aV.iD _ _ hkK]at hk
   exact hD _ (h.dom k x hk)
 ·intro k b N' hk
  by_cases hkK:k=K
  ·subst hkK
   rw[aV.gR]at hk
   simp at hk;omega
  ·rw[aV.iD _ _ hkK]at hk
   have:=h.lt k b N' hk
   omega
 ·intro b hb hm
  rw[<-h.block b hb hm]
  have:=h.size
  exact uf aa
 ·intro k o' b N' hk ho hb
  by_cases hkK:k=K
  ·subst hkK
   rw[aV.gR]at hb
   have:=h.size
   simp at hb;omega
  ·rw[gD hkK]at hk
   rw[aV.iD _ _ hkK]at hb
   exact h.new k o' b N' hk ho hb
theorem bB.write (h:bB c st D β w) {k:Nat} {o o':ax} (hk:look k st=some o) (hw:o.wr=true) {b:Nat} {N:Nat×Nat} (hb:β k=some (b,N)) {cs cs':Array Value} {ty:TypeId}
  (hh:w.heap[b]?=some (.cells cs ty (0,0))) (hsz:cs'.size=cs.size) (hes:o'.es=o.es) (hw':o'.wr=true) (hl:o'.len=o.len)
  (hc:∀i,i<o'.len->∃ps,ps.length=o'.es/\aO (aN c st β) w (if o'.row then bE else β) [o'.f i] ps/\∀j v,ps[j]?=some v->cs'[i*o'.es+j]?=some v):
  bB c (put k o' st) D β (w.setRow b cs')/\dH (aN c st β) w β (aN c (put k o' st) β) (w.setRow b cs') β:=by
 have hM:aN c st β b:=.inr ⟨k,o,N,hk,hw,hb⟩
 have hother:∀b',b'≠b->(w.setRow b cs').heap[b']?=w.heap[b']?:=fun b' hne=>setRow_other w b b' cs' hne
 have hmm:∀b',aN c (put k o' st) β b'->aN c st β b':=fun b' hm=>by
  rcases hm with hm|⟨j,oj,Nj,h1,h2,h3⟩
  ·exact .inl hm
  ·by_cases hj:j=k
   ·grind
   ·rw[gD hj]at h1
    exact .inr ⟨j,oj,Nj,h1,h2,h3⟩
 have e:dH (aN c st β) w β (aN c (put k o' st) β) (w.setRow b cs') β:=by
  refine⟨fun b' x hb' hx=>⟨?_,fun hm=>hb' (hmm b' hm)⟩,fun _ _ h=>h⟩
  grind
 refine⟨?_,e⟩
 refine {obj:=?_,eG:=fun j oj hj hbj=>?_,inj:=?_,dom:=h.dom,keep:=h.keep,lt:=by simpa using h.lt,os:=h.os,tape:=h.tape,output:=h.output,size:=by simpa using h.size,block:=?_,ig:=h.ig,new:=?_}
 ·intro j oj hj x hx
  by_cases hjk:j=k
  ·subst hjk
   rw[jr]at hj
   simp at hj
   subst hj
   obtain⟨b1,N1,cs1,ty1,a1,a2,a3,a4,⟨a5,a5'⟩,_⟩:=h.obj j o hk _ hb
   rw[hb]at a1
   obtain⟨rfl,rfl⟩:=a1
   rw[hh]at a2
   obtain⟨rfl,rfl,_⟩:=a2
   refine⟨b,N,cs',ty,hb,setRow_heap w b cs cs' ty _ hh,by rw[hsz,a3,hes],aa,⟨aa,aa⟩,fun _=>.inr ⟨j,o',N,jr,hw',hb⟩,fun hf=>by simp[hw']at hf,fun i hi=>?_⟩
   obtain⟨ps,p1,p2,p3⟩:=hc i hi
   exact⟨ps,p1,p2.vO e,p3⟩
  ·rw[gD hjk]at hj
   have hoj:=h.obj j oj hj x hx
   refine hoj.iT e (fun b1 N1 cs1 ty1 hb1 hx=>?_) (fun b1 N1 hb1 ho=>.inr ⟨j,oj,N1,by rw[gD hjk];exact hj,ho,hb1⟩)
   have:b1≠b:=fun e=>by
    subst e
    exact hjk (h.inj k j o oj b1 N N1 hk hj hw hb hb1).symm
   rw[hother b1 this];exact hx
 ·by_cases hjk:j=k
  ·subst hjk;rw[hb]at hbj;simp at hbj
  ·rw[gD hjk]at hj;exact h.eG j oj hj hbj
 ·intro j j' o1 o2 b1 N1 N2 h1 h2 hw1 hb1 hb2
  have f1:∃o1',look j st=some o1'/\o1'.wr=true:=by
   by_cases hj:j=k
   ·subst hj;exact⟨o,hk,hw⟩
   ·rw[gD hj]at h1;exact⟨o1,h1,hw1⟩
  have f2:∃o2',look j' st=some o2':=by
   by_cases hj:j'=k
   ·subst hj;exact⟨o,hk⟩
   ·rw[gD hj]at h2;exact⟨o2,h2⟩
  obtain⟨o1',h1',hw1'⟩:=f1
  obtain⟨o2',h2'⟩:=f2
  exact h.inj j j' o1' o2' b1 N1 N2 h1' h2' hw1' hb1 hb2
 ·intro b' hb' hm
  have hne:b'≠b:=fun e=>by
   subst e
   rcases h.new k o b' N hk hw hb with h1|h1
   ·omega
   ·exact hm h1
  rw[hother b' hne];exact h.block b' hb' hm
 ·intro j oj b1 N1 hj ho hb1
  by_cases hjk:j=k
  ·subst hjk;exact h.new j o b1 N1 hk hw hb1
  ·rw[gD hjk]at hj;exact h.new j oj b1 N1 hj ho hb1
theorem bB.freeze (h:bB c st D β w) {k:Nat} {o:ax} (hk:look k st=some o):
  bB c (put k {o with wr:=false} st) D β w/\dH (aN c st β) w β (aN c (put k {o with wr:=false} st) β) w β:=by
 have hmm:∀b',aN c (put k {o with wr:=false} st) β b'->aN c st β b':=fun b' hm=>by
  rcases hm with hm|⟨j,oj,Nj,h1,h2,h3⟩
  ·exact .inl hm
  ·by_cases hj:j=k
   ·subst hj
    rw[jr]at h1
    grind
   ·rw[gD hj]at h1
    exact .inr ⟨j,oj,Nj,h1,h2,h3⟩
 have e:dH (aN c st β) w β (aN c (put k {o with wr:=false} st) β) w β:=⟨fun b' x hb' hx=>⟨hx,fun hm=>hb' (hmm b' hm)⟩,fun _ _ h=>h⟩
 refine⟨?_,e⟩
 refine {h with obj:=?_,eG:=fun j oj hj hbj=>?_,inj:=?_,new:=?_}
 ·intro j oj hj x hx
  by_cases hjk:j=k
  ·subst hjk
   rw[jr]at hj
   simp at hj
   subst hj
   obtain⟨b,N,cs,ty,a1,a2,a3,a4,a5,a6,a7,a8⟩:=h.obj j o hk x hx
   refine⟨b,N,cs,ty,a1,a2,a3,a4,a5,fun hf=>by grind,fun _ hm=>?_,fun i hi=>?_⟩
   ·by_cases hw:o.wr=true
    ·rcases hm with hm|⟨j',oj',Nj',h1,h2,h3⟩
     ·exact h.A5 hk hw a1 hm
     ·by_cases hj:j'=j
      ·subst hj
       rw[jr]at h1
       grind
      ·rw[gD hj]at h1
       exact hj (h.inj j' j oj' o b Nj' N h1 hk h2 h3 a1)
    grind
   ·obtain⟨ps,p1,p2,p3⟩:=a8 i hi
    exact⟨ps,p1,p2.vO e,p3⟩
  ·rw[gD hjk]at hj
   exact(h.obj j oj hj x hx).iT e (fun _ _ _ _ _ hx=>hx) (fun b1 N1 hb1 ho=>.inr ⟨j,oj,N1,by rw[gD hjk];omega,ho,hb1⟩)
 ·by_cases hjk:j=k
  ·subst hjk
   rw[jr]at hj
   simp at hj
   subst hj
   exact h.eG j o hk hbj
  ·rw[gD hjk]at hj;exact h.eG j oj hj hbj
 ·intro j j' o1 o2 b1 N1 N2 h1 h2 hw1 hb1 hb2
  have hjk:j≠k:=fun e=>by
   subst e
   rw[jr]at h1
   simp at h1
   subst h1;simp at hw1
  rw[gD hjk]at h1
  have f2:∃o2',look j' st=some o2':=by
   by_cases hj:j'=k
   ·subst hj;exact⟨o,hk⟩
   ·rw[gD hj]at h2;exact⟨o2,h2⟩
  obtain⟨o2',h2'⟩:=f2
  exact h.inj j j' o1 o2' b1 N1 N2 h1 h2' hw1 hb1 hb2
 ·intro j oj b1 N1 hj ho hb1
  have hjk:j≠k:=fun e=>by
   subst e
   rw[jr]at hj
   simp at hj
   subst hj;simp at ho
  rw[gD hjk]at hj
  exact h.new j oj b1 N1 hj ho hb1
theorem bB.drop (h:bB c st D β w) (k:Nat):bB c (cut k st) D β w/\dH (aN c st β) w β (aN c (cut k st) β) w β:=by
 have hl:∀j o,look j (cut k st)=some o->j≠k/\look j st=some o:=fun j o hj=>by
  rw[Be]at hj
  grind
 have hmm:∀b',aN c (cut k st) β b'->aN c st β b':=fun b' hm=>by
  rcases hm with hm|⟨j,oj,Nj,h1,h2,h3⟩
  ·exact .inl hm
  ·exact .inr ⟨j,oj,Nj,(hl j oj h1).2,h2,h3⟩
 have e:dH (aN c st β) w β (aN c (cut k st) β) w β:=⟨fun b' x hb' hx=>⟨hx,fun hm=>hb' (hmm b' hm)⟩,fun _ _ h=>h⟩
 refine⟨?_,e⟩
 refine {h with obj:=?_,eG:=fun j oj hj hbj=>h.eG j oj (hl j oj hj).2 hbj,inj:=?_,new:=?_}
 ·intro j oj hj x hx
  exact(h.obj j oj (hl j oj hj).2 x hx).iT e (fun _ _ _ _ _ hx=>hx) (fun b1 N1 hb1 ho=>.inr ⟨j,oj,N1,hj,ho,hb1⟩)
 ·exact fun j j' o1 o2 b1 N1 N2 h1 h2=>h.inj j j' o1 o2 b1 N1 N2 (hl _ _ h1).2 (hl _ _ h2).2
 ·exact fun j oj b1 N1 hj=>h.new j oj b1 N1 (hl _ _ hj).2
theorem bB.extend (h:bB c st D β w) {k K:Nat} {o o':ax} (hk:look k st=some o) (hw:o.wr=true) (hK:¬D K) (hD:∀k,D k->D' k) (hDK:D' K) {b:Nat} {N:Nat×Nat}
  (hb:β k=some (b,N)) {cs cs':Array Value} {ty:TypeId}
  (hh:w.heap[b]?=some (.cells cs ty (0,0))) (hsz:cs'.size=cs.size) (hes:o'.es=o.es) (hw':o'.wr=true) (hl:o'.len<=N.1)
  (hc:∀i,i<o'.len->∃ps,ps.length=o'.es/\aO (aN c st β) w (if o'.row then bE else β) [o'.f i] ps/\∀j v,ps[j]?=some v->cs'[i*o'.es+j]?=some v):
  bB c (put K o' (cut k st)) D' (β.set K (b,N.1,o'.len)) (w.setRow b cs')/\
   dH (aN c st β) w β (aN c (put K o' (cut k st)) (β.set K (b,N.1,o'.len))) (w.setRow b cs') (β.set K (b,N.1,o'.len)):=by
 have hbK:=h.fresh hK
 have hM:aN c st β b:=.inr ⟨k,o,N,hk,hw,hb⟩
 have hother:∀b',b'≠b->(w.setRow b cs').heap[b']?=w.heap[b']?:=fun b' hne=>setRow_other w b b' cs' hne
 have hl':∀j oj,look j (put K o' (cut k st))=some oj->(j=K/\oj=o')\/(j≠K/\j≠k/\look j st=some oj):=fun j oj hj=>by
  rw[wW]at hj
  split at hj
  ·simp at hj
   exact .inl ⟨by assumption,hj.symm⟩
  ·rw[Be]at hj
   split at hj
   ·simp at hj
   ·exact .inr ⟨by assumption,by assumption,hj⟩
 have hmm:∀b',aN c (put K o' (cut k st)) (β.set K (b,N.1,o'.len)) b'->aN c st β b':=fun b' hm=>by
  rcases hm with hm|⟨j,oj,Nj,h1,h2,h3⟩
  ·exact .inl hm
  ·rcases hl' j oj h1 with⟨rfl,rfl⟩|⟨g1,g2,g3⟩
   ·rw[aV.gR]at h3
    simp at h3
    rw[<-h3.1];exact hM
   ·rw[aV.iD _ _ g1]at h3
    exact .inr ⟨j,oj,Nj,g3,h2,h3⟩
 have e:dH (aN c st β) w β (aN c (put K o' (cut k st)) (β.set K (b,N.1,o'.len))) (w.setRow b cs') (β.set K (b,N.1,o'.len)):=by
  refine⟨fun b' x hb' hx=>⟨?_,fun hm=>hb' (hmm b' hm)⟩,fun j y hj=>?_⟩
  ·have:b'≠b:=fun e=>hb' (e▸hM)
   rw[hother b' this];exact hx
  ·have:j≠K:=fun e=>by subst e;rw[hbK]at hj;simp at hj
   rw[aV.iD _ _ this];exact hj
 refine⟨?_,e⟩
 obtain⟨b1,N1,cs1,ty1,a1,a2,a3,a4,⟨a5,a5'⟩,_⟩:=h.obj k o hk _ hb
 rw[hb]at a1
 obtain⟨rfl,rfl⟩:=a1
 rw[hh]at a2
 obtain⟨rfl,rfl,_⟩:=a2
 refine {obj:=?_,eG:=fun j oj hj hbj=>?_,inj:=?_,dom:=?_,keep:=fun k x hk=>e.keys _ _ (h.keep k x hk),lt:=?_,os:=h.os,tape:=h.tape,output:=h.output,size:=by simpa using h.size,block:=?_,ig:=h.ig,new:=?_}
 ·intro j oj hj x hx
  rcases hl' j oj hj with⟨rfl,rfl⟩|⟨g1,g2,g3⟩
  ·refine⟨b,(N.1,oj.len),cs',ty,aV.gR _ _ _,setRow_heap w b cs cs' ty _ hh,by rw[hsz,a3,hes],aa,⟨rfl,hl⟩,
    fun _=>.inr ⟨j,oj,_,jr,hw',aV.gR _ _ _⟩,fun hf=>by simp[hw']at hf,fun i hi=>?_⟩
   obtain⟨ps,p1,p2,p3⟩:=hc i hi
   exact⟨ps,p1,p2.vO e,p3⟩
  ·rw[aV.iD _ _ g1]at hx
   refine(h.obj j oj g3 x hx).iT e (fun b1 N1 cs1 ty1 hb1 hx=>?_) (fun b1 N1 hb1 ho=>.inr ⟨j,oj,N1,hj,ho,?_⟩)
   ·have:b1≠b:=fun e=>by
     subst e
     exact g2 (h.inj k j o oj b1 N N1 hk g3 hw hb hb1).symm
    rw[hother b1 this];exact hx
   ·rw[aV.iD _ _ g1];exact hb1
 ·rcases hl' j oj hj with⟨rfl,rfl⟩|⟨g1,g2,g3⟩
  ·rw[aV.gR]at hbj;simp at hbj
  ·rw[aV.iD _ _ g1]at hbj
   exact⟨(h.eG j oj g3 hbj).1,hD _ (h.eG j oj g3 hbj).2⟩
 ·intro j j' o1 o2 b1 N1 N2 h1 h2 hw1 hb1 hb2
  rcases hl' j o1 h1 with⟨rfl,rfl⟩|⟨g1,g2,g3⟩
  ·rcases hl' j' o2 h2 with⟨rfl,rfl⟩|⟨f1,f2,f3⟩
   ·rfl
   ·rw[aV.gR]at hb1
    rw[aV.iD _ _ f1]at hb2
    obtain⟨rfl,_⟩:=hb1
    exact absurd (h.inj k j' o o2 b N N2 hk f3 hw hb hb2).symm f2
  ·rcases hl' j' o2 h2 with⟨rfl,rfl⟩|⟨f1,f2,f3⟩
   ·rw[aV.gR]at hb2
    rw[aV.iD _ _ g1]at hb1
    obtain⟨rfl,_⟩:=hb2
    exact absurd (h.inj j k o1 o b N1 N g3 hk hw1 hb1 hb) g2
   ·rw[aV.iD _ _ g1]at hb1
    rw[aV.iD _ _ f1]at hb2
    exact h.inj j j' o1 o2 b1 N1 N2 g3 f3 hw1 hb1 hb2
 ·intro j y hj
  by_cases hjK:j=K
  ·rw[hjK];exact hDK
  ·rw[aV.iD _ _ hjK]at hj
   exact hD _ (h.dom j y hj)
 ·intro j b1 N1 hj
  rw[setRow_size]
  by_cases hjK:j=K
  ·subst hjK
   rw[aV.gR]at hj
   simp at hj
   rw[<-hj.1]
   exact h.lt k b N hb
  ·rw[aV.iD _ _ hjK]at hj
   exact h.lt j b1 N1 hj
 ·intro b' hb' hm
  have hne:b'≠b:=fun e=>by
   subst e
   rcases h.new k o b' N hk hw hb with h1|h1
   ·omega
   ·exact hm h1
  rw[hother b' hne];exact h.block b' hb' hm
 ·intro j oj b1 N1 hj ho hb1
  rcases hl' j oj hj with⟨rfl,rfl⟩|⟨g1,g2,g3⟩
  ·rw[aV.gR]at hb1
   simp at hb1
   rw[<-hb1.1]
   exact h.new k o b N hk hw hb
  ·rw[aV.iD _ _ g1]at hb1
   exact h.new j oj b1 N1 g3 ho hb1
theorem bB.Fm (h:bB c st D β w) {k:Nat} {o o':ax} (hk:look k st=some o) (ho:o'=o):bB c (put k o' st) D β w/\dH (aN c st β) w β (aN c (put k o' st) β) w β:=by
 subst ho
 have he:∀j,look j (put k o' st)=look j st:=fun j=>by
  by_cases hj:j=k
  ·subst hj;rw[jr,hk]
  ·rw[gD hj]
 have hM:aN c (put k o' st) β=aN c st β:=by
  funext b
  simp only[aN,he]
 refine⟨?_,by rw[hM];exact dH.refl _ _ _⟩
 refine {h with obj:=fun k o hk=>?_,eG:=fun k o hk=>h.eG k o (by grind),inj:=fun k k' o o' b N N' h1 h2=>?_,new:=fun k o b N h1=>?_}
 ·rw[hM];exact h.obj k o (by grind)
 ·exact h.inj k k' o o' b N N' (by grind) (by grind)
 ·exact h.new k o b N (by grind)
theorem bB.Od (h:bB c st D β w) {K:Nat} (hK:¬D K) (hD:∀k,D k->D' k) (hDK:D' K) {o:ax} (hr:o.row=true) (hl:o.len=0) (h0:0<o.es):
  bB c (put K o st) D' β w/\dH (aN c st β) w β (aN c (put K o st) β) w β:=by
 have hbK:=h.fresh hK
 have hl':∀j oj x,look j (put K o st)=some oj->β j=some x->look j st=some oj:=fun j oj x hj hb=>by
  have:j≠K:=fun e=>by grind
  rwa [gD this]at hj
 have hmm:∀b',aN c (put K o st) β b'->aN c st β b':=fun b' hm=>by
  rcases hm with hm|⟨j,oj,Nj,h1,h2,h3⟩
  ·exact .inl hm
  ·exact .inr ⟨j,oj,Nj,hl' j oj _ h1 h3,h2,h3⟩
 have e:dH (aN c st β) w β (aN c (put K o st) β) w β:=⟨fun b' x hb' hx=>⟨hx,fun hm=>hb' (hmm b' hm)⟩,fun _ _ h=>h⟩
 refine⟨?_,e⟩
 refine {h with obj:=?_,eG:=fun j oj hj hbj=>?_,inj:=?_,dom:=fun k x hk=>hD _ (h.dom k x hk),new:=?_}
 ·intro j oj hj x hx
  exact(h.obj j oj (hl' j oj x hj hx) x hx).iT e (fun _ _ _ _ _ hx=>hx) (fun b1 N1 hb1 ho=>.inr ⟨j,oj,N1,hj,ho,hb1⟩)
 ·by_cases hjK:j=K
  ·subst hjK
   rw[jr]at hj
   grind
  ·rw[gD hjK]at hj
   exact⟨(h.eG j oj hj hbj).1,hD _ (h.eG j oj hj hbj).2⟩
 ·exact fun j j' o1 o2 b1 N1 N2 h1 h2 hw hb1 hb2=>h.inj j j' o1 o2 b1 N1 N2 (hl' _ _ _ h1 hb1) (hl' _ _ _ h2 hb2) hw hb1 hb2
 ·exact fun j oj b1 N1 hj ho hb=>h.new j oj b1 N1 (hl' _ _ _ hj hb) ho hb
end change
end Go.Am
namespace Go.Am
open AV
structure cP (P:Program) (t:TypeId) (ti:TI):Prop where
 dR:P.underlying t=some ti.desc
 info:∃i,P.info? t=some i/\i.size=ti.size/\i.bytes=ti.bytes
 zero:ti.zero.isTuple=false->∃i z,P.info? t=some i/\i.zero=some z/\∀M w β,bF M w β ti.zero z
def eE (P:Program) (T:Types):Prop:=∀t ti,look t T=some ti->cP P t ti
def mb (P:Program) (s:Sem Next) (w:World) (R:Value->World->Prop):Prop:=
 (∃x w',s.run P w=.ok (.value x) w'/\R x w')\/(∃w',s.run P w=.ok .skip w'/\R undef w')\/
 (∃f vs,s.run P w=.ok (.enter f vs) w/\Calls P f vs w fun e w'=>∃x,e=.returned x/\R x w')
def iy (ro:Option Nat):Fence:={fn:=fun _=>True,depth:=none,alive:=false,round:=ro}
theorem mb.wpIn {P:Program} {o:Oper} {a:Act} {w:World} {R:Value->World->Prop} {next:Act->World->Prop} {Q:Exit->Act->World->Prop} {ro:Option Nat} (hd:∀c,o.op≠.defer c)
  (h:mb P (execOp a.eval o) w R) (hn:∀x w',R x w'->next (a.put o.dst x) w'):o.wpIn (iy ro) 3 P a w next Q:=by
 refine⟨fun _ _=>trivial,?_⟩
 rw[Oper.semAt_eq _ _ _ hd]
 rcases h with⟨x,w',h1,h2⟩|⟨w',h1,h2⟩|⟨f,vs,h1,h2⟩
 ·rw[h1];exact hn x w' h2
 ·rw[h1];exact hn undef w' h2
 ·rw[h1]
  refine⟨fun _=>by decide,?_⟩
  refine CallsIn.mono (F:=iy ro) ((callsIn_wide (n:=3-1)).2 h2) fun e w' he=>?_
  grind
theorem mb.mono {P:Program} {s:Sem Next} {w:World} {R R':Value->World->Prop} (h:mb P s w R) (hr:∀x w',R x w'->R' x w'):mb P s w R':=by
 rcases h with⟨x,w',h1,h2⟩|⟨w',h1,h2⟩|⟨f,vs,h1,h2⟩
 ·exact .inl ⟨x,w',h1,hr _ _ h2⟩
 ·exact .inr (.inl ⟨w',h1,hr _ _ h2⟩)
 ·exact .inr (.inr ⟨f,vs,h1,h2.mono fun e w' ⟨x,he,hx⟩=>⟨x,he,hr _ _ hx⟩⟩)
def fM (c:Ctx) (st:aE) (D':Nat->Prop) (β:aV) (w:World) (cH:List (Nat×Option ax)) (v:AV) (x:Value) (w':World):Prop:=
 ∃β',bB c (de cH st) D' β' w'/\dH (aN c st β) w β (aN c (de cH st) β') w' β'/\bP (aN c (de cH st) β') w' β' v x
section inv
variable {M:Nat->Prop} {w:World} {β:aV} {x:Value}
theorem bP.bool {b:Bool} (h:bP M w β (.bool b) x):x=.bool b:=by
 have:=h.cell rfl
 cases this;rfl
theorem bP.int {k:IntKind} {n:Int} (h:bP M w β (.int k n) x):x=.int k n:=by
 have:=h.cell rfl
 cases this;rfl
theorem bP.func {f:FuncId} {caps:List AV} (h:bP M w β (.func f caps) x):
  ∃vs:List Value,x=.func (.func f) #[] vs.toArray/\aO M w β caps vs/\(caps.all fun v=>!v.isAgg&&!v.isTuple)=true:=by
 have:=h.cell rfl
 cases this with
 |func h1 h2 _=>grind
theorem bP.str {s:List UInt8} (h:bP M w β (.str s) x):x=.string ⟨s.toArray⟩:=by
 have:=h.cell rfl
 cases this;rfl
theorem bP.ptr {k idx es off:Nat} {p:List Nat} (h:bP M w β (.ptr k idx es off p) x):∃b N,β k=some (b,N)/\x=.pointer (some ⟨b,idx*es+off,none⟩):=by
 have:=h.cell rfl
 cases this with
 |ptr h1 _=>grind
theorem bP.b9 {v:AV} (h:bP M w β (.b9 v) x):∃b o ps,x=.pointer (some ⟨b,o,none⟩)/\aO M w bE [v] ps/\iz M w b o ps:=by
 have:=h.cell rfl
 cases this with
 |b9 h1 h2 _=>grind
theorem bP.own {k es s n:Nat} (h:bP M w β (.own k es s n) x):
  (∃b o cap,∃N:Nat×Nat,x=.slice (some ⟨b,o,none⟩) n cap/\β k=some (b,N)/\s+cap<=N.1/\s+n<=N.2/\n<=cap/\(cap=0\/o=s*es)/\0<es)\/(x=.slice none 0 0/\s=0/\n=0/\0<es):=by
 have:=h.cell rfl
 cases this with
 |own h1 h2 h3 h4 h5 _=>grind
 |own0 h5 _=>grind
theorem bP.cC {n:Nat} {v:AV} (h:bP M w β (.cC n v) x):∃base m,x=.slice base m n/\v.isAgg=false/\bF M w β v x:=by
 have:=h.cell rfl
 cases this with
 |cC ha h1 _=>exact⟨_,_,rfl,ha,.cK h1 ha⟩
theorem bP.nil (h:bP M w β .nil x):x=.slice none 0 0:=by
 have:=h.cell rfl
 cases this;rfl
theorem bP.mag {N:Nat} (h:bP M w β (.mag N) x):
  ∃base cap,x=.slice base (nl N) cap/\(N=0\/∃b o,base=some ⟨b,o,none⟩/\iz M w b o (u9 N))/\nl N<=cap:=by
 have:=h.cell rfl
 cases this with
 |mag h1 h2 _=>grind
theorem bP.ak {es n:Nat} {f:Nat->AV} (h:bP M w β (.ak es n f) x):
  ∃base cap,∃cf:Nat->List Value,x=.slice base n cap/\(n=0\/∃b o,base=some ⟨b,o,none⟩/\∀i,i<n->iz M w b (o+i*es) (cf i))/\0<es/\n<=cap/\
   (∀i,i<n->(cf i).length=es)/\∀i,i<n->aO M w bE [f i] (cf i):=by
 have:=h.cell rfl
 cases this with
 |ak h1 h2 h3 h4 h5 _=>exact⟨_,_,_,rfl,h1,h2,h3,h4,h5⟩
theorem bF.bE {v:AV} (h:bF M w bE v x):bF M w β v x:=
 bF.mono (fun _ _ h h'=>⟨h',h⟩) (fun k y h=>by cases h) h
theorem bP.one {v:AV} (h:bP M w β v x) (hv:v.isTuple=false):bF M w β v x:=by rwa [bP.Eh hv]at h
end inv
theorem CK {N i:Nat} (h:i<nl N):(u9 N)[i]?=some (.int .u32 (aD N i)):=by simp[u9,h]
theorem we:nl 0=0:=by rfl
theorem uv {w:World} {b o:Nat} {cs:Array Value} {ty:TypeId} {fr:Nat×Nat} (h:w.heap[b]?=some (.cells cs ty fr)):w.cell? ⟨b,o,none⟩=cs[o]?:=by
 simp[World.cell?,h]
theorem iz.range {M:Nat->Prop} {w:World} {b o:Nat} {ps:List Value} (h:iz M w b o ps):w.rangeAt b o ps:=by
 obtain⟨cs,ty,fr,h1,_,h3⟩:=h
 intro j v hv
 rw[uv h1]
 grind
section load
variable {P:Program} {w:World}
theorem OH {M:Nat->Prop} {β:aV} {t:TypeId} {ti:TI} (ht:cP P t ti) {b o:Nat} {ps:List Value} (hr:w.rangeAt b o ps) {v:AV} (hv:aO M w β [v] ps)
  (hs:v.size=ti.size) (ha:v.isAgg=lG ti.desc):∃x,(Instr.loadAt t (.pointer (some ⟨b,o,none⟩))).run P w=.ok x w/\bF M w β v x:=by
 obtain⟨i,hi,his,_⟩:=ht.info
 have hlen:ps.length=ti.size:=by rw[hv.length];exact hs
 by_cases hagg:lG ti.desc=true
 ·refine⟨.agg ps.toArray,run_loadAt_mid (P:=P) w b o t ps ti.desc hr ht.dR ?_ (by grind),bF.zo hv (by grind)⟩
  cases hd:ti.desc<;>simp_all [lG,TypeDesc.isRow]
 ·have hva:v.isAgg=false:=by grind
  have h1:ps.length=1:=by
   rw[hlen,<-hs]
   cases v<;>first|rfl|cases hva
  obtain⟨x,rfl⟩:∃x,ps=[x]:=by
   match ps,h1 with
   |[x],_=>simp
  refine⟨x,?_,bF.cK hv hva⟩
  have hc:w.cell? ⟨b,o,none⟩=some x:=by simpa using hr 0 x (by simp)
  have hg:(isAgg t).run P w=.ok false w:=by
   unfold Go.isAgg
   rw[Sem.run_bind,run_underlying ht.dR w]
   cases hd:ti.desc<;>simp_all [lG]
  simp[Instr.loadAt,Instr.sureAddr,loadVar,Sem.run_bind,hg,hc]
def splice (cs:Array Value) (o:Nat) (ps:List Value):Array Value:=(cs.toList.take o++ps++cs.toList.drop (o+ps.length)).toArray
theorem xk {cs:Array Value} {o:Nat} {ps:List Value} (h:o+ps.length<=cs.size):(splice cs o ps).size=cs.size:=by
 simp[splice];omega
theorem nr {cs:Array Value} {o:Nat} {ps:List Value} (h:o+ps.length<=cs.size) (i:Nat):
  (splice cs o ps)[i]?=if o<=i/\i<o+ps.length then ps[i-o]? else cs[i]?:=by
 simp only[splice,List.getElem?_toArray,List.append_assoc]
 grind
theorem Yq {M:Nat->Prop} {β:aV} {t:TypeId} {ti:TI} (ht:cP P t ti) {b o:Nat} {cs:Array Value} {ty:TypeId} (hh:w.heap[b]?=some (.cells cs ty (0,0)))
  {v:AV} {x:Value} (hv:bF M w β v x) (hs:v.size=ti.size) (hfit:o+ti.size<=cs.size):
  (Instr.storeAt t (.pointer (some ⟨b,o,none⟩)) x).run P w=.ok () (w.setRow b (splice cs o x.cells.toList)):=by
 obtain⟨i,hi,his,_⟩:=ht.info
 have hc:=hv.cells
 have hlen:x.cells.toList.length=ti.size:=by rw[hc.length];exact hs
 have hst:=run_storeCells_at P b o ty x.cells.toList 0 cs w hh aa hc.Dj
 have hsz:x.cells.size=i.size:=by grind
 simp[Instr.storeAt,Instr.sureAddr,storeVar,sizeOf,typeInfo,hi,hsz,splice,hst]
end load
theorem Es {cs:Array Value} {base:Nat} {pr cc po:List Value} (h:∀j v,(pr++(cc++po))[j]?=some v->cs[base+j]?=some v):
  ∀j v,cc[j]?=some v->cs[base+pr.length+j]?=some v:=by
 intro j v hv
 have:=h (pr.length+j) v (by grind)
 grind
section rel
variable {c:Ctx} {st:aE} {D:Nat->Prop} {β:aV} {w:World}
theorem Se {M:Nat->Prop} {w:World} {β:aV} {N:Nat} {cs:List Value} (h:aO M w β [.mag N] cs):aO M w bE [.mag N] cs:=by
 cases h with
 |mag h1 h2 h3=>cases h3;exact .mag h1 h2 .nil
mutual
theorem zq (h:bB c st D β w) {pre:aE} (hpre:∀k o,look k pre=some o->look k st=some o):∀{v u:AV} {cs:List Value},dF pre v=some u->aO (aN c st β) w β [v] cs->
  aO (aN c st β) w bE [u] cs/\u.isAgg=v.isAgg
 |.bool b,u,cs,hf,hv=>by simp only[dF,ay]at hf;subst hf;cases hv with|bool h=>cases h;exact⟨.bool .nil,rfl⟩
 |.int k n,u,cs,hf,hv=>by simp only[dF,ay]at hf;subst hf;cases hv with|int h=>cases h;exact⟨.int .nil,rfl⟩
 |.rat q n,u,cs,hf,hv=>by simp only[dF,ay]at hf;subst hf;cases hv with|rat h1 h2 h3 h=>cases h;exact⟨.rat h1 h2 h3 .nil,rfl⟩
 |.mag N,u,cs,hf,hv=>by simp only[dF,ay]at hf;subst hf;exact⟨Se hv,rfl⟩
 |.ak es n f,u,cs,hf,hv=>by simp only[dF,ay]at hf;subst hf;cases hv with|ak h1 h2 h3 h4 h5 h=>cases h;exact⟨.ak h1 h2 h3 h4 h5 .nil,rfl⟩
 |.eJ b es n f,u,cs,hf,hv=>by simp only[dF,ay]at hf;subst hf;cases hv with|eJ h0 h1 h2 h3 h4 h5 h=>cases h;exact⟨.eJ h0 h1 h2 h3 h4 h5 .nil,rfl⟩
 |.nil,u,cs,hf,hv=>by simp only[dF,ay]at hf;subst hf;cases hv with|vnil h=>cases h;exact⟨.vnil .nil,rfl⟩
 |.str _,u,cs,hf,hv=>by simp only[dF,ay]at hf;subst hf;cases hv with|str h=>cases h;exact⟨.str .nil,rfl⟩
 |.void,u,cs,hf,hv=>by simp only[dF,ay]at hf;subst hf;cases hv with|void hx h=>cases h;exact⟨.void hx .nil,rfl⟩
 |.b9 v,u,cs,hf,hv=>by simp only[dF,ay]at hf;subst hf;cases hv with|b9 h1 h2 h=>cases h;exact⟨.b9 h1 h2 .nil,rfl⟩
 |.ptr _ _ _ _ _,u,cs,hf,hv=>by simp[dF]at hf
 |.tuple _,u,cs,hf,hv=>by simp[dF]at hf
 |.cC c v,u,cs,hf,hv=>by
  simp only[dF]at hf
  cases hl:dF pre v with
  |none=>rw[hl]at hf;simp at hf
  |some m=>
   rw[hl]at hf
   simp only[ay]at hf
   subst hf
   cases hv with
   |cC ha h1 h2=>
    cases h2
    obtain⟨q1,q2⟩:=zq h hpre hl h1
    exact⟨.cC (by rw[q2];exact ha) q1 .nil,rfl⟩
 |.func f l,u,cs,hf,hv=>by
  simp only[dF]at hf
  cases hl:fP pre l with
  |none=>rw[hl]at hf;simp at hf
  |some m=>
   rw[hl]at hf
   simp only at hf
   split at hf
   ·rename_i hall
    simp only[ay]at hf
    subst hf
    cases hv with
    |func h1 h2 h3=>
     cases h3
     exact⟨.func (AQ h hpre hl h1) hall .nil,rfl⟩
   ·simp at hf
 |.agg l,u,cs,hf,hv=>by
  simp only[dF]at hf
  cases hl:fP pre l with
  |none=>rw[hl]at hf;simp at hf
  |some m=>
   rw[hl]at hf
   simp only[ay]at hf
   subst hf
   cases hv with
   |agg h1 h2=>
    cases h2
    exact⟨.agg (AQ h hpre hl h1) .nil,rfl⟩
 |.own k es s n,u,cs,hf,hv=>by
  simp only[dF]at hf
  cases hl:look k pre with
  |none=>rw[hl]at hf;simp at hf
  |some o=>
   rw[hl]at hf
   simp only at hf
   split at hf
   ·rename_i hc
    simp only[ay]at hf
    subst hf
    simp only[Bool.and_eq_true,Bool.not_eq_true',beq_iff_eq]at hc
    obtain⟨⟨hr,hw⟩,hes⟩:=hc
    cases hv with
    |own0 h5 h6=>
     cases h6
     exact⟨.ak (cf:=fun _=>[]) (.inl rfl) h5 aT (fun i hi=>aa) (fun i hi=>aa) .nil,rfl⟩
    |own h1 h2 h3 h4 h5 h6=>
     cases h6
     rename_i cap b N o'
     obtain⟨b1,N1,cs1,ty,a1,a2,a3,a4,⟨a5,a5'⟩,a6,a7,a8⟩:=h.obj k o (hpre k o hl) _ h1
     rw[h1]at a1
     simp only[ay,Prod.mk.injEq]at a1
     obtain⟨rfl,rfl⟩:=a1
     have hcf:∀i,∃ps:List Value,i<n->ps.length=es/\aO (aN c st β) w bE [o.f (i+s)] ps/\∀j v,ps[j]?=some v->cs1[(i+s)*o.es+j]?=some v:=fun i=>by
      by_cases hi:i<n
      ·obtain⟨ps,p1,p2,p3⟩:=a8 (i+s) aa
       rw[hr]at p2
       exact⟨ps,fun _=>⟨aa,p2,p3⟩⟩
      ·exact⟨[],fun h=>absurd h hi⟩
     obtain⟨cf,hcf⟩:∃cf:Nat->List Value,∀i,i<n->(cf i).length=es/\aO (aN c st β) w bE [o.f (i+s)] (cf i)/\∀j v,(cf i)[j]?=some v->cs1[(i+s)*o.es+j]?=some v:=
      ⟨fun i=>Classical.choose (hcf i),fun i=>Classical.choose_spec (hcf i)⟩
     refine⟨.ak (cf:=cf) ?_ h5 h3 (fun i hi=>(hcf i hi).1) (fun i hi=>(hcf i hi).2.1) .nil,rfl⟩
     rcases h4 with h4|h4
     ·left;omega
     ·right
      refine⟨b,o',rfl,fun i hi=>⟨cs1,ty,(0,0),a2,a7 hw,fun j v hv=>?_⟩⟩
      have:=(hcf i hi).2.2 j v hv
      rw[Nat.add_mul,hes]at this
      rw[h4,Nat.add_comm (s*es)];exact this
   ·simp at hf
theorem AQ (h:bB c st D β w) {pre:aE} (hpre:∀k o,look k pre=some o->look k st=some o):∀{l m:List AV} {cs:List Value},fP pre l=some m->aO (aN c st β) w β l cs->
  aO (aN c st β) w bE m cs
 |[],m,cs,hf,hv=>by simp only[fP,ay]at hf;subst hf;cases hv;exact .nil
 |a::l,m,cs,hf,hv=>by
  simp only[fP]at hf
  obtain⟨c1,c2,rfl,h1,h2⟩:=hv.split
  cases ha:dF pre a with
  |none=>rw[ha]at hf;simp at hf
  |some b=>
   cases hl:fP pre l with
   |none=>rw[ha,hl]at hf;simp at hf
   |some m'=>
    rw[ha,hl]at hf
    simp only[ay]at hf
    subst hf
    exact(zq h hpre ha h1).1.cons (AQ h hpre hl h2)
end
end rel
end Go.Am
namespace Go.Am
open AV
section ops
variable {P:Program} {T:Types} (hT:eE P T)
variable {c:Ctx} {st pre:aE} {D D':Nat->Prop} {β:aV} {w:World}
theorem eM (h:bB c st D β w) (hD:∀k,D k->D' k) {v:AV} {x:Value} (hv:bP (aN c st β) w β v x):fM c st D' β w [] v x w:=
 ⟨β,h.mA hD,dH.refl _ _ _,hv⟩
theorem dm {s:Sem Next} {x:Value} {w':World} {R:Value->World->Prop} (hr:s.run P w=.ok (.value x) w') (h:R x w'):mb P s w R:=.inl ⟨x,w',hr,h⟩
theorem bB.elem (h:bB c st D β w) {k:Nat} {o:ax} (hk:look k st=some o) {b:Nat} {N:Nat×Nat} (hb:β k=some (b,N)) {i:Nat} (hi:i<o.len):
  ∃cs ty ps,w.heap[b]?=some (.cells cs ty (0,0))/\ps.length=o.es/\aO (aN c st β) w (if o.row then bE else β) [o.f i] ps/\
   (∀j v,ps[j]?=some v->cs[i*o.es+j]?=some v)/\(i+1)*o.es<=cs.size/\cs.size=N.1*o.es/\
   ∀i',i'<o.len->∃ps',ps'.length=o.es/\aO (aN c st β) w (if o.row then bE else β) [o.f i'] ps'/\∀j v,ps'[j]?=some v->cs[i'*o.es+j]?=some v:=by
 obtain⟨b1,N1,cs,ty,a1,a2,a3,a4,⟨a5,a5'⟩,a6,a7,a8⟩:=h.obj k o hk _ hb
 rw[hb]at a1
 simp only[ay,Prod.mk.injEq]at a1
 obtain⟨rfl,rfl⟩:=a1
 obtain⟨ps,p1,p2,p3⟩:=a8 i hi
 exact⟨cs,ty,ps,a2,p1,p2,p3,by rw[a3];exact Nat.mul_le_mul_right _ aa,a3,a8⟩
theorem aO.lift {M:Nat->Prop} {w:World} {β:aV} {r:Bool} {l:List AV} {cs:List Value} (h:aO M w (if r then bE else β) l cs):aO M w β l cs:=by
 cases r
 ·exact h
 ·exact h.mono (fun _ _ h h'=>⟨h',h⟩) _ fun k x h=>by simp[bE]at h
include hT in
theorem K5 (h:bB c st D β w) (hpre:∀k o,look k pre=some o->look k st=some o) {t:TypeId} {ti:TI} (ht:look t T=some ti) {p:AV} {x:Value}
  (hp:bP (aN c st β) w β p x) {r:fm} (hr:q9 pre ti p=some r) (need:r.need):
  r.cH=[]/\∃y,(Instr.loadAt t x).run P w=.ok y w/\bF (aN c st β) w β r.val y:=by
 cases p with
 |b9 v=>
  simp only[q9]at hr
  split at hr
  ·rename_i hc
   simp only[cI,ay]at hr
   subst hr
   simp only[Bool.and_eq_true,beq_iff_eq]at hc
   obtain⟨b,o,ps,rfl,h1,h2⟩:=hp.b9
   obtain⟨y,hy,hv⟩:=OH (hT t ti ht) (w:=w) h2.range h1 hc.1.1 hc.1.2
   exact⟨rfl,y,hy,hv.bE⟩
  ·simp at hr
 |ptr k idx es off path=>
  simp only[q9]at hr
  cases hk:look k pre with
  |none=>rw[hk]at hr;simp at hr
  |some o=>
   rw[hk]at hr
   simp only at hr
   split at hr
   ·rename_i hc
    cases hg:(o.f idx).pZ path with
    |none=>rw[hg]at hr;simp at hr
    |some v=>
     rw[hg]at hr
     simp only at hr
     split at hr
     ·rename_i hd
      simp only[ay]at hr
      subst hr
      simp only[Bool.and_eq_true,beq_iff_eq]at hc hd
      obtain⟨b,N,hb,rfl⟩:=hp.ptr
      obtain⟨cs,ty,ps,e1,e2,e3,e4,e5,e6,_⟩:=h.elem (hpre k o hk) hb need
      obtain⟨pr,cc,po,rfl,q1,q2,_⟩:=aO.path path e3 v hg
      have hr:w.rangeAt b (idx*es+off) cc:=by
       intro j u hu
       rw[uv e1,<-hc.1,<-hc.2,<-q1]
       exact Es e4 j u hu
      obtain⟨y,hy,hv⟩:=OH (hT t ti ht) (w:=w) hr q2.lift hd.1.1 hd.1.2
      exact⟨rfl,y,hy,hv⟩
     ·simp at hr
   ·simp at hr
 |_=>simp[q9]at hr
mutual
theorem Ft {b:Bool}:∀{u v:AV},nP b u v=if b=true then u else v
 |.rat q n,v=>by cases v<;>cases b<;>simp[nP]
 |.agg l,.agg m=>by
  simp only[nP]
  split
  ·rename_i x hx
   rw[Mh hx];split<;>rfl
  ·rfl
 |.agg l,.rat .. |.agg l,.bool .. |.agg l,.int .. |.agg l,.mag .. |.agg l,.ak .. |.agg l,.eJ .. |.agg l,.nil|.agg l,.void|.agg l,.str .. |.agg l,.b9 .. |.agg l,.ptr .. |.agg l,.own .. |.agg l,.func .. |.agg l,.tuple .. |.agg l,.cC .. =>by simp[nP]
 |.bool ..,v|.int ..,v|.mag ..,v|.ak ..,v|.eJ ..,v|.nil,v|.void,v|.str ..,v|.b9 ..,v|.ptr ..,v|.own ..,v|.func ..,v|.tuple ..,v|.cC ..,v=>by simp[nP]
theorem Mh {b:Bool}:∀{l m x:List AV},sR b l m=some x->x=if b=true then l else m
 |[],[],x,h=>by simp only[sR,ay]at h;subst h;split<;>rfl
 |u::l,v::m,x,h=>by
  simp only[sR]at h
  split at h
  ·rename_i y hy
   simp only[ay]at h
   subst h
   rw[Mh hy,Ft];split<;>rfl
  ·simp at h
 |[],_::_,x,h=>by simp[sR]at h
 |_::_,[],x,h=>by simp[sR]at h
end
theorem Vx {b:Bool} {k:IntKind} {n:Int} {v:AV}:HA b k n v=if b=true then .int k n else v:=by
 unfold HA
 split
 ·split
  ·rename_i h
   have:∀{a c:IntKind},isKind a c=true->a=c:=fun {a c} h=>by cases a<;>cases c<;>first|rfl|cases h
   have:=this h
   subst this
   cases b<;>rfl
  ·rfl
 ·rfl
theorem Qo {b x:Bool} {v:AV}:HF b x v=if b=true then .bool x else v:=by
 unfold HF
 split
 ·cases b<;>rfl
 ·rfl
theorem agY {b:Bool} {es n:Nat} {h:Nat->AV} {v:AV}:E6 b es n h v=if b=true then .ak es n h else v:=by
 unfold E6
 split
 ·split
  ·rename_i he
   have:=Nat.eq_of_beq_eq_true he
   subst this
   cases b<;>rfl
  ·rfl
 ·rfl
theorem MX {r:Bool} {idx:Nat} {u:AV} {f:Nat->AV}:Aj r idx u f=fun j=>if j==idx then u else f j:=by
 unfold Aj
 split
 ·funext j;exact Ft
 ·funext j;exact Ft
 ·funext j;exact agY
 ·rfl
theorem S9 {z r:Bool} {idx:Nat} {u:AV} {f:Nat->AV}:EW z r idx u f=fun j=>if j==idx then u else f j:=by
 unfold EW
 split
 ·unfold L6
  split
  ·funext j;exact Vx
  ·funext j;exact Qo
  ·exact MX
 ·exact MX
include hT in
theorem adB (h:bB c st D β w) (hpre:∀k o,look k pre=some o->look k st=some o) (hD:∀k,D k->D' k) {t:TypeId} {ti:TI} (ht:look t T=some ti) {p v:AV} {x y:Value}
  (hp:bP (aN c st β) w β p x) (hv:bP (aN c st β) w β v y) {r:fm} {z:Bool} (hr:xg z pre ti p v=some r) (need:r.need):
  ∃w',(Instr.storeAt t x y).run P w=.ok () w'/\fM c st D' β w r.cH r.val undef w':=by
 cases p with
 |ptr k idx es off path=>
  simp only[xg,S9]at hr
  cases hk:look k pre with
  |none=>rw[hk]at hr;simp at hr
  |some o=>
   rw[hk]at hr
   simp only at hr
   split at hr
   ·rename_i hc
    simp only[Bool.and_eq_true,beq_iff_eq,Bool.not_eq_true']at hc
    obtain⟨⟨⟨⟨hes,hwr⟩,hoff⟩,hsz⟩,htup⟩:=hc
    cases hg:(o.f idx).pZ path with
    |none=>rw[hg]at hr;simp at hr
    |some u0=>
     cases hy:(if o.row then dF pre v else some v)with
     |none=>rw[hg,hy]at hr;simp at hr
     |some y'=>
      rw[hg,hy]at hr
      simp only at hr
      split at hr
      ·rename_i hd
       simp only[Bool.and_eq_true,beq_iff_eq]at hd
       obtain⟨⟨hd1,hd2⟩,hd3⟩:=hd
       cases hs:(o.f idx).rY path y' with
       |none=>rw[hs]at hr;simp at hr
       |some u=>
        rw[hs]at hr
        simp only[ay]at hr
        subst hr
        have hk':=hpre k o hk
        obtain⟨b,N,hb,rfl⟩:=hp.ptr
        obtain⟨cs,ty,ps,e1,e2,e3,e4,e5,e6,e7⟩:=h.elem hk' hb need
        obtain⟨pr,cc,po,rfl,q1,q2,q3⟩:=aO.path path e3 u0 hg
        have hv1:=hv.one htup
        have hvc:=hv1.cells
        have hyc:aO (aN c st β) w (if o.row then bE else β) [y'] y.cells.toList:=by
         cases hrow:o.row with
         |false=>rw[hrow]at hy;simp only[Bool.false_eq_true,if_false,ay]at hy;subst hy;simpa using hvc
         |true=>rw[hrow]at hy;simp only[if_true]at hy;simpa using(zq h hpre hy hvc).1
        have hlx:y.cells.toList.length=ti.size:=by rw[hvc.length];simp[sizes,hsz]
        have hlc:cc.length=ti.size:=by rw[q2.length];simp[sizes,hd1]
        have hbnd:idx*es+off+ti.size<=cs.size:=by
         have:(pr++(cc++po)).length=o.es:=e2
         simp only[List.length_append]at this
         rw[<-hes]
         rw[Nat.add_mul]at e5
         omega
        have hrun:=Yq (hT t ti ht) (w:=w) e1 hv1 hsz hbnd
        refine⟨_,hrun,β,?_⟩
        have hq:=h.write (o':={o with f:=fun j=>if j==idx then u else o.f j}) hk' hwr hb e1 (xk (by rw[hlx];exact hbnd)) rfl hwr rfl (fun i hi=>?_)
        ·simp only[de]
         exact⟨hq.1.mA hD,hq.2,[],by simp[undef],trivial⟩
        ·have hi':i<o.len:=hi
         by_cases hii:i=idx
         ·subst hii
          refine⟨pr++(y.cells.toList++po),?_,?_,fun j z hz=>?_⟩
          ·have:(pr++(cc++po)).length=o.es:=e2
           simp only[List.length_append]at this ⊢
           simp only at*
           omega
          ·simpa using q3 y' u _ hyc hs
          ·rw[nr (by rw[hlx];exact hbnd),hlx]
           have hlen:(pr++(y.cells.toList++po)).length=o.es:=by
            have:(pr++(cc++po)).length=o.es:=e2
            simp only[List.length_append]at this ⊢;omega
           have hj:j<o.es:=by rw[<-hlen];exact(List.getElem?_eq_some_iff.1 hz).1
           have hprl:pr.length=off:=by rw[q1,hoff]
           simp only[hes]at*
           by_cases hin:off<=j/\j<off+ti.size
           ·rw[if_pos aa]
            rw[List.getElem?_append_right aa,List.getElem?_append_left aa]at hz
            have:i*es+j-(i*es+off)=j-pr.length:=aa
            rw[this];exact hz
           ·rw[if_neg aa]
            apply e4
            rcases Nat.lt_or_ge j off with hlt|hge
            ·rw[List.getElem?_append_left aa]at hz ⊢;exact hz
            ·rw[List.getElem?_append_right aa,List.getElem?_append_right aa]at hz ⊢
             rw[hlx]at hz
             rw[hlc];exact hz
         ·obtain⟨ps',f1,f2,f3⟩:=e7 i hi'
          refine⟨ps',f1,?_,fun j z hz=>?_⟩
          ·have:(i==idx)=false:=by simpa using hii
           simpa [this]using f2
          ·rw[nr (by rw[hlx];exact hbnd),hlx]
           have hj:j<o.es:=by rw[<-f1];exact(List.getElem?_eq_some_iff.1 hz).1
           have hlen:(pr++(cc++po)).length=o.es:=e2
           simp only[List.length_append]at hlen
           have hne:¬(idx*es+off<=i*o.es+j/\i*o.es+j<idx*es+off+ti.size):=by
            rw[<-hes]
            rcases Nat.lt_or_gt_of_ne hii with hlt|hgt
            ·have:=Nat.mul_le_mul_right o.es (show i+1<=idx by omega)
             rw[Nat.add_mul]at this;omega
            ·have:=Nat.mul_le_mul_right o.es (show idx+1<=i by omega)
             rw[Nat.add_mul]at this;omega
           rw[if_neg hne];exact f3 j z hz
      ·simp at hr
   ·simp at hr
 |_=>simp[xg]at hr
end ops
end Go.Am
namespace Go.Am
open AV
section ops
variable {P:Program} {T:Types} (hT:eE P T)
variable {c:Ctx} {st pre:aE} {D D':Nat->Prop} {β:aV} {w:World}
theorem By {k j:IntKind} (h:isKind k j=true):k=j:=by cases k<;>cases j<;>first|rfl|cases h
include hT in
theorem OB {op:BinOp} {t t':TypeId} {x y:Operand} {a b:AV} {u v:Value} (ha:bP (aN c st β) w β a u) (hb:bP (aN c st β) w β b v) {r:fm} (hr:pg T t' op a b=some r) (need:r.need):
  r.cH=[]/\∃z,(do eqGuard op t x y u v;binOp op t' u v:Sem Value).run P w=.ok z w/\bF (aN c st β) w β r.val z:=by
 have hint:∀k n,bF (aN c st β) w β (.int k n) (.int k n):=fun k n=>.cK (.int .nil) rfl
 have hbool:∀t,bF (aN c st β) w β (.bool t) (.bool t):=fun t=>.cK (.bool .nil) rfl
 cases a with
 |int k m=>
  cases b with
  |int j n=>
   have:=ha.int;subst this
   have:=hb.int;subst this
   simp only[eqGuard_at_int]
   cases op<;>simp only[pg]at hr
   case shl=>
    simp only[ay]at hr;subst hr
    refine⟨rfl,_,?_,hint _ _⟩
    have need:0<=n:=need
    have:¬n<0:=aa
    simp[binOp,Op.shift,this]
   case shr=>
    simp only[ay]at hr;subst hr
    refine⟨rfl,_,?_,hint _ _⟩
    have need:0<=n:=need
    have:¬n<0:=aa
    simp[binOp,Op.shift,this]
   all_goals
    split at hr
    ·rename_i hk
     have:=By hk
     subst this
     simp only[DC,cI,ay,reduceCtorEq]at hr<;>subst hr<;>first
      |(refine⟨rfl,_,?_,hint _ _⟩;(first
        |(simp[binOp,Op.intArith];done)
        |(have need:n≠0:=need;simp only[binOp,ne_eq,not_true,if_false,Op.intDiv,need];rfl)
        |(simp only[binOp,ne_eq,not_true,if_false,Op.intBits];rfl)))
      |(refine⟨rfl,_,?_,hbool _⟩;(simp[binOp,Op.intCmp];done))
    ·simp at hr
  |_=>cases op<;>simp[pg]at hr
 |bool m=>
  cases b with
  |bool n=>
   have:=ha.bool;subst this
   have:=hb.bool;subst this
   simp only[eqGuard_at_bool]
   simp only[pg]at hr
   split at hr
   ·rename_i i1 i2 i3 ht
    have he:(Op.equal t' (.bool m) (.bool n)).run P w=.ok (m==n) w:=run_equal_bool w t' m n (hT _ _ ht).dR
    cases op<;>simp only[cI,ay,reduceCtorEq]at hr
    case eql=>subst hr;exact⟨rfl,_,by simp[binOp,he],hbool _⟩
    case neq=>subst hr;exact⟨rfl,_,by simp[binOp,he,bne],hbool _⟩
   ·simp at hr
  |_=>simp[pg]at hr
 |_=>simp[pg]at hr
include hT in
theorem VF (h:bB c st D β w) (hD:∀k,D k->D' k) {K:Nat} (hK:¬D K) (hDK:D' K) {t:TypeId} {ti:TI} (ht:look t T=some ti)
  (h1:ti.size≠0) (h2:ti.zero.size=ti.size) (h3:ti.zero.isTuple=false):
  ∃x w',(Instr.alloc t true (.tuple #[])).run P w=.ok x w'/\fM c st D' β w [(K,some ⟨false,true,ti.size,1,fun _=>ti.zero⟩)] (.ptr K 0 ti.size 0 []) x w':=by
 obtain⟨i,z,hi,hz,hrep⟩:=(hT t ti ht).zero h3
 have hc:=(hrep (aN c st β) w β).cells
 have hl:z.cells.toList.length=ti.size:=by rw[hc.length];simp[sizes,h2]
 refine⟨.pointer (some ⟨w.heap.size,0,none⟩),w.alloc (.cells z.cells t),by simp[Instr.alloc,zeroValue,typeInfo,hi,hz,newVar,newRow],β.set K (w.heap.size,1,1),?_⟩
 obtain⟨q1,q2⟩:=h.alloc (D':=D') (o:=⟨false,true,ti.size,1,fun _=>ti.zero⟩) hK hD hDK rfl (cs:=z.cells) (ty:=t) (N:=1) (by simp[<-hl]) (by simp;omega) (by simp)
  (fun i hi=>⟨z.cells.toList,hl,by simpa using hc,fun j v hv=>by
   have:i=0:=by simp at hi;omega
   subst this;simpa using hv⟩)
 refine⟨q1,q2,bF.bY (.cK ?_ rfl)⟩
 simp only[de]
 have:=aO.ptr (M:=aN c (put K ⟨false,true,ti.size,1,fun _=>ti.zero⟩ st) (β.set K (w.heap.size,1,1))) (w:=w.alloc (.cells z.cells t)) (β:=β.set K (w.heap.size,1,1)) (k:=K) (idx:=0) (es:=ti.size) (off:=0) (path:=[])
  (aV.gR _ _ _) .nil
 simpa using this
theorem Tj (h:bB c st D β w) (hD:∀k,D k->D' k) {K:Nat} (hK:¬D K) (hDK:D' K) {t:TypeId} {v:AV} {x:Value} (hv:bF (aN c st β) w β v x) (h1:v.size≠0):
  ∃y w',(Instr.box t x).run P w=.ok y w'/\fM c st D' β w [(K,some ⟨false,true,v.size,1,fun _=>v⟩)] (.ptr K 0 v.size 0 []) y w':=by
 have hc:=hv.cells
 have hl:x.cells.toList.length=v.size:=by rw[hc.length];simp[sizes]
 refine⟨.pointer (some ⟨w.heap.size,0,none⟩),w.alloc (.cells x.cells t),by simp[Instr.box,newVar,newRow],β.set K (w.heap.size,1,1),?_⟩
 obtain⟨q1,q2⟩:=h.alloc (D':=D') (o:=⟨false,true,v.size,1,fun _=>v⟩) hK hD hDK rfl (cs:=x.cells) (ty:=t) (N:=1) (by simp[<-hl]) (by simp;omega) (by simp)
  (fun i hi=>⟨x.cells.toList,hl,by simpa using hc,fun j v hv=>by
   have:i=0:=by simp at hi;omega
   subst this;simpa using hv⟩)
 refine⟨q1,q2,bF.bY (.cK ?_ rfl)⟩
 simp only[de]
 have:=aO.ptr (M:=aN c (put K ⟨false,true,v.size,1,fun _=>v⟩ st) (β.set K (w.heap.size,1,1))) (w:=w.alloc (.cells x.cells t)) (β:=β.set K (w.heap.size,1,1)) (k:=K) (idx:=0) (es:=v.size) (off:=0) (path:=[])
  (aV.gR _ _ _) .nil
 simpa using this
theorem BM {M:Nat->Prop} {v:AV} {i off:Nat} {t:TypeId} {k:AV} (hk:jF T v i off t=some k) {cs:List Value} (hv:aO M w β [v] cs):
  ∃ti pr cc po,look t T=some ti/\v.isAgg=true/\cs=pr++(cc++po)/\pr.length=off/\cc.length=ti.size/\aO M w β [k] cc/\k.isAgg=lG ti.desc/\k.size=ti.size/\ti.size≠0/\v.kids[i]?=some k/\
   ∀a' c',aO M w β [a'] c'->aO M w β (v.kids.set i a') (pr++(c'++po)):=by
 unfold jF at hk
 cases hki:v.kids[i]? with
 |none=>rw[hki]at hk;simp at hk
 |some k'=>
  cases ht:look t T with
  |none=>rw[hki,ht]at hk;simp at hk
  |some ti=>
   rw[hki,ht]at hk
   simp only at hk
   split at hk
   ·rename_i hc
    simp only[ay]at hk
    subst hk
    simp only[Bool.and_eq_true,beq_iff_eq,bne_iff_ne,ne_eq]at hc
    obtain⟨pr,cc,po,rfl,h1,h2,h3⟩:=(hv.kids (GU hki)).at i k' hki
    refine⟨ti,pr,cc,po,rfl,GU hki,rfl,by rw[h1];exact hc.1.1.1,by rw[h2.length];simp[sizes,hc.1.1.2],h2,hc.1.2,hc.1.1.2,hc.2,rfl,h3⟩
   ·simp at hk
include hT in
theorem IK {M:Nat->Prop} {v:AV} {i off:Nat} {t:TypeId} {k:AV} (hk:jF T v i off t=some k) {x:Value} (hv:bF M w β v x):
  ∃cs y,x=.agg cs/\(part t cs off).run P w=.ok y w/\bF M w β k y:=by
 obtain⟨cs,h1,h2⟩:=hv
 obtain⟨ti,pr,cc,po,ht,hagg,rfl,hp,hl,hc,ha,hs,h0,_,_⟩:=BM hk h1
 rcases h2 with⟨_,rfl⟩|⟨h2,_⟩
 ·have htk:=hT t ti ht
  obtain⟨inf,hi,his,_⟩:=htk.info
  by_cases hag:lG ti.desc=true
  ·have hg:(isAgg t).run P w=.ok true w:=by
    unfold Go.isAgg
    rw[Sem.run_bind,run_underlying htk.dR w]
    cases hd:ti.desc<;>simp_all [lG]
   refine⟨_,.agg cc.toArray,rfl,?_,bF.zo hc (by rw[ha,hag])⟩
   simp only[part,Sem.run_bind,hg,Result.andThen_ok,if_true,sizeOf,typeInfo,run_program,hi,Sem.run_pure,his]
   congr 2
   apply Array.ext'
   simp only[Array.toList_extract,List.extract_eq_take_drop]
   rw[List.drop_append_of_le_length aa,<-hp]
   simp only[List.drop_length,List.nil_append]
   rw[List.take_append_of_le_length aa]
   rw[List.take_of_length_le aa]
  ·have hag':k.isAgg=false:=by rw[ha];simpa using hag
   have hg:(isAgg t).run P w=.ok false w:=by
    unfold Go.isAgg
    rw[Sem.run_bind,run_underlying htk.dR w]
    cases hd:ti.desc<;>simp_all [lG]
   have h1l:cc.length=1:=by
    rw[hl,<-hs]
    cases k<;>first|rfl|cases hag'
   obtain⟨y,rfl⟩:∃y,cc=[y]:=by
    match cc,h1l with
    |[y],_=>exact⟨y,rfl⟩
   refine⟨_,y,rfl,?_,bF.cK hc hag'⟩
   have:(pr++([y]++po)).toArray[off]?=some y:=by
    simp[<-hp]
   simp only[part,Sem.run_bind,hg,Result.andThen_ok,Bool.false_eq_true,if_false,this,Sem.run_pure]
 ·rw[hagg]at h2;simp at h2
include hT in
theorem Yo {s:TypeId} {ti:TI} (hs:look s T=some ti) {v:AV} {x:Value} (hv:bF (aN c st β) w β v x) {i:Nat} {fd:Field} (hf:nJ ti.desc i=some fd) {k:AV}
  (hk:jF T v i fd.offset fd.type=some k):∃y,(Instr.field s x i).run P w=.ok y w/\bF (aN c st β) w β k y:=by
 obtain⟨cs,y,rfl,hy,hr⟩:=IK hT hk hv
 refine⟨y,?_,hr⟩
 cases hd:ti.desc with
 |struct fs=>
  rw[hd]at hf
  simp only[nJ]at hf
  simp only[Instr.field,Sem.run_bind,run_underlying (hd▸(hT s ti hs).dR) w,Result.andThen_ok,hf,asAgg,Sem.run_pure,hy]
 |_=>rw[hd]at hf;simp[nJ]at hf
include hT in
theorem Yu {t:TypeId} {ti ei:TI} (hs:look t T=some ti) {n:Nat} {e:TypeId} (hd:ti.desc=.array n e) (he:look e T=some ei) {v:AV} {x:Value} (hv:bF (aN c st β) w β v x)
  {i:Int} {kd:IntKind} {k:AV} (hk:jF T v i.toNat (i.toNat*ei.size) e=some k) (h0:0<=i) (h1:i<n):∃y,(Instr.index t x (.int kd i)).run P w=.ok y w/\bF (aN c st β) w β k y:=by
 obtain⟨cs,y,rfl,hy,hr⟩:=IK hT hk hv
 refine⟨y,?_,hr⟩
 obtain⟨inf,hi,his,_⟩:=(hT e ei he).info
 simp only[Instr.index,Sem.run_bind,asIntOf,Sem.run_pure,Result.andThen_ok,run_underlying (hd▸(hT t ti hs).dR) w,if_pos (And.intro h0 h1),sizeOf,typeInfo,run_program,hi,his,hy]
include hT in
theorem Oi {s:TypeId} {ti fi:TI} (hs:look s T=some ti) {i:Nat} {fd:Field} (hf:nJ ti.desc i=some fd) (ht:look fd.type T=some fi) (h0:fi.size≠0) {b o:Nat}:
  (Instr.fieldAt s (.pointer (some ⟨b,o,none⟩)) i).run P w=.ok (.pointer (some ⟨b,o+fd.offset,none⟩)) w:=by
 obtain⟨inf,hi,his,_⟩:=(hT _ fi ht).info
 cases hd:ti.desc with
 |struct fs=>
  rw[hd]at hf
  simp only[nJ]at hf
  have hne:¬inf.size=0:=aa
  simp only[Instr.fieldAt,Sem.run_bind,run_underlying (hd▸(hT s ti hs).dR) w,Result.andThen_ok,hf,Instr.sureAddr,Sem.run_pure,fieldPlace,sizeOf,typeInfo,run_program,hi,if_neg hne,Addr.add_mid]
 |_=>rw[hd]at hf;simp[nJ]at hf
theorem iz.part {M:Nat->Prop} {b o:Nat} {pr cc po:List Value} (h:iz M w b o (pr++(cc++po))):iz M w b (o+pr.length) cc:=by
 obtain⟨cs,ty,fr,h1,h2,h3⟩:=h
 exact⟨cs,ty,fr,h1,h2,Es h3⟩
theorem HS {M:Nat->Prop} {v:AV} {i off:Nat} {t:TypeId} {k:AV} (hk:jF T v i off t=some k) {x:Value} (hv:bP M w β (.b9 v) x):
  ∃b o,x=.pointer (some ⟨b,o,none⟩)/\bF M w β (.b9 k) (.pointer (some ⟨b,o+off,none⟩)):=by
 obtain⟨b,o,ps,rfl,h1,h2⟩:=hv.b9
 obtain⟨ti,pr,cc,po,_,_,rfl,hp,_,hc,_⟩:=BM hk h1
 refine⟨b,o,rfl,.cK (.b9 hc ?_ .nil) rfl⟩
 rw[<-hp];exact h2.part
include hT in
theorem IE {t:TypeId} {ti ei:TI} (hs:look t T=some ti) {n:Nat} {e:TypeId} (hd:ti.desc=.array n e) (he:look e T=some ei) {b o:Nat} {kd:IntKind} {i:Int} (h0:0<=i) (h1:i<n):
  (Instr.indexAt t (.pointer (some ⟨b,o,none⟩)) (.int kd i)).run P w=.ok (.pointer (some ⟨b,o+i.toNat*ei.size,none⟩)) w:=by
 obtain⟨inf,hi,his,_⟩:=(hT e ei he).info
 simp only[Instr.indexAt,Sem.run_bind,asIntOf,Sem.run_pure,Result.andThen_ok,run_underlying (hd▸(hT t ti hs).dR) w,Instr.sureAddr,if_pos (And.intro h0 h1),sizeOf,typeInfo,run_program,hi,his,Addr.add_mid]
include hT in
theorem zD {t:TypeId} {ti ei:TI} (hs:look t T=some ti) {e:TypeId} (hd:ti.desc=.slice e) (he:look e T=some ei) {b o n cap:Nat} {kd:IntKind} {i:Int} (h0:0<=i) (h1:i<n):
  (Instr.indexAt t (.slice (some ⟨b,o,none⟩) n cap) (.int kd i)).run P w=.ok (.pointer (some ⟨b,o+i.toNat*ei.size,none⟩)) w:=by
 obtain⟨inf,hi,his,_⟩:=(hT e ei he).info
 simp only[Instr.indexAt,Sem.run_bind,asIntOf,Sem.run_pure,Result.andThen_ok,run_underlying (hd▸(hT t ti hs).dR) w,if_pos (And.intro h0 h1),sizeOf,typeInfo,run_program,hi,his,Addr.add_mid]
theorem aa1 (h:bB c st D β w) {k:Nat} {o:ax} (hk:look k st=some o) {es s n b off cap:Nat} {N:Nat×Nat} (hb:β k=some (b,N)) (h3:s+n<=N.2) (h5:cap=0\/off=s*es) (hnc:n<=cap)
  {i:Nat} (hi:i<n):i+s<o.len/\off+i*es=(i+s)*es:=by
 obtain⟨b1,N1,cs,ty,a1,a2,a3,a4,⟨a5,a5'⟩,a6,a7,a8⟩:=h.obj k o hk _ hb
 rw[hb]at a1
 simp only[ay,Prod.mk.injEq]at a1
 obtain⟨rfl,rfl⟩:=a1
 refine⟨aa,?_⟩
 rcases h5 with h5|h5
 ·omega
 ·rw[h5,Nat.add_mul,Nat.add_comm]
include hT in
theorem ag3 (h:bB c st D β w) (hpre:∀k o,look k pre=some o->look k st=some o) {t:TypeId} {ti ei:TI} (hs:look t T=some ti) {e:TypeId} (hd:ti.desc=.slice e) (he:look e T=some ei)
  {v:AV} {x:Value} (hv:bP (aN c st β) w β v x) {kd:IntKind} {i:Int} (h0:0<=i) {r:AV} {need:Prop} (hr:elemAt pre ei.size v i.toNat=some (r,need)) (hn:need):
  ∃y,(Instr.indexAt t x (.int kd i)).run P w=.ok y w/\bF (aN c st β) w β r y:=by
 cases v with
 |ak es n f=>
  simp only[elemAt]at hr
  split at hr
  ·rename_i hc
   simp only[ay,Prod.mk.injEq]at hr
   obtain⟨rfl,rfl⟩:=hr
   have hc':es=ei.size:=by simpa using hc
   obtain⟨base,cap,cf,rfl,h1,h2,h3,h4,h5⟩:=hv.ak
   rcases h1 with h1|⟨b,o,rfl,h1⟩
   ·omega
   ·refine⟨_,zD hT hs hd he h0 aa,.cK (.b9 (h5 _ hn) ?_ .nil) rfl⟩
    rw[<-hc'];exact h1 _ hn
  ·simp at hr
 |mag N=>
  simp only[elemAt]at hr
  split at hr
  ·rename_i hc
   simp only[ay,Prod.mk.injEq]at hr
   obtain⟨rfl,rfl⟩:=hr
   have hc':ei.size=1:=by simpa using hc
   obtain⟨base,cap,rfl,h1,h2⟩:=hv.mag
   rcases h1 with h1|⟨b,o,rfl,h1⟩
   ·subst h1;simp[we]at hn
   ·refine⟨_,zD hT hs hd he h0 aa,.cK (.b9 (.int .nil) ?_ .nil) rfl⟩
    obtain⟨cs,ty,fr,g1,g2,g3⟩:=h1
    refine⟨cs,ty,fr,g1,g2,fun j u hu=>?_⟩
    have hj:j=0:=by have:=(List.getElem?_eq_some_iff.1 hu).1;simp at this;exact this
    subst hj
    simp only[List.getElem?_cons_zero,ay]at hu
    subst hu
    have:=g3 _ _ (CK hn)
    simpa [hc']using this
  ·simp at hr
 |own k es s n=>
  simp only[elemAt]at hr
  split at hr
  ·rename_i hc
   have hc':es=ei.size:=by simpa using hc
   cases hk:look k pre with
   |none=>rw[hk]at hr;simp at hr
   |some o=>
    rw[hk]at hr
    simp only at hr
    rcases hv.own with g|⟨_,_,hn0,_⟩
    rotate_left
    ·exfalso
     split at hr
     ·simp only[ay,Prod.mk.injEq]at hr
      obtain⟨rfl,rfl⟩:=hr
      omega
     ·simp only[ay,Prod.mk.injEq]at hr
      obtain⟨rfl,rfl⟩:=hr
      omega
    obtain⟨b,off,cap,N,rfl,g1,g2,g3,g4,g5,g6⟩:=g
    have hk':=hpre k o hk
    split at hr
    ·rename_i hc2
     simp only[ay,Prod.mk.injEq]at hr
     obtain⟨rfl,rfl⟩:=hr
     simp only[Bool.and_eq_true,beq_iff_eq,Bool.not_eq_true']at hc2
     obtain⟨q1,q2⟩:=aa1 h hk' g1 g3 g5 g4 hn
     obtain⟨cs,ty,ps,e1,e2,e3,e4,e5,e6,_⟩:=h.elem hk' g1 q1
     obtain⟨b1,N1,cs1,ty1,a1,a2,a3,a4,a5,a6,a7,a8⟩:=h.obj k o hk' _ g1
     rw[g1]at a1
     simp only[ay,Prod.mk.injEq]at a1
     obtain⟨rfl,rfl⟩:=a1
     rw[hc2.1.1]at e3
     refine⟨_,zD hT hs hd he h0 aa,.cK (.b9 e3 ⟨cs,ty,(0,0),e1,a7 hc2.1.2,?_⟩ .nil) rfl⟩
     rw[<-hc',q2,<-hc2.2];exact e4
    ·simp only[ay,Prod.mk.injEq]at hr
     obtain⟨rfl,rfl⟩:=hr
     refine⟨_,zD hT hs hd he h0 aa,.cK ?_ rfl⟩
     have hoff:off+i.toNat*ei.size=(i.toNat+s)*ei.size+0:=by
      rcases g5 with g5|g5
      ·omega
      ·rw[g5,hc',Nat.add_mul];omega
     rw[hoff]
     exact .ptr g1 .nil
  ·simp at hr
 |_=>simp[elemAt]at hr
end ops
end Go.Am
namespace Go.Am
open AV
section ops
variable {P:Program} {T:Types} (hT:eE P T)
variable {c:Ctx} {st pre:aE} {D D':Nat->Prop} {β:aV} {w:World}
theorem On (cells:Array Value) (off:Nat) (vs:List Value) (h:off+vs.length<=cells.size):
  ((vs.toArray.zipIdx).foldl (fun cs (x:Value×Nat)=>match x with|(v,j)=>cs.setIfInBounds (off+j) v) cells)=splice cells off vs:=by
 have key:∀(ws:List Value) (k:Nat) (cs:Array Value),off+k+ws.length<=cs.size->
   (ws.zipIdx k).foldl (fun cs (x:Value×Nat)=>match x with|(v,j)=>cs.setIfInBounds (off+j) v) cs=splice cs (off+k) ws:=by
  intro ws
  induction ws with
  |nil=>intro k cs hl;apply Array.ext';simp[splice]
  |cons v ws ih=>
   intro k cs hl
   simp only[List.length_cons]at hl
   rw[List.zipIdx_cons,List.foldl_cons]
   rw[ih (k+1) _ (by simp;omega)]
   apply Array.ext_getElem?
   intro i
   rw[nr (by simp;omega),nr (by simp;omega)]
   simp only[List.length_cons,Array.getElem?_setIfInBounds]
   by_cases h1:i=off+k
   ·subst h1
    rw[if_neg aa,if_pos rfl,if_pos aa,if_pos aa]
    simp
   ·by_cases h2:off+(k+1)<=i/\i<off+(k+1)+ws.length
    ·rw[if_pos h2,if_pos aa]
     have:i-(off+k)=(i-(off+(k+1)))+1:=aa
     rw[this];simp
    ·rw[if_neg h2,if_neg aa,if_neg aa]
 have:=key vs 0 cells (by simpa using h)
 simp only[Nat.add_zero]at this
 rw[<-Array.foldl_toList]
 simpa using this
theorem Jf {d:TypeDesc} {i off:Nat} {t:TypeId} (h:placeOf T d i=some (off,t)):
  (∃fs f,d=.struct fs/\fs[i]?=some f/\f.offset=off/\f.type=t)\/(∃n ti,d=.array n t/\look t T=some ti/\i*ti.size=off):=by
 cases d with
 |struct fs=>
  simp only[placeOf]at h
  cases hf:fs[i]? with
  |none=>rw[hf]at h;simp at h
  |some f=>
   rw[hf]at h
   simp only[ay,Prod.mk.injEq]at h
   exact .inl ⟨fs,f,rfl,hf,h.1,h.2⟩
 |array n e=>
  simp only[placeOf]at h
  cases hf:look e T with
  |none=>rw[hf]at h;simp at h
  |some ti=>
   rw[hf]at h
   simp only[ay,Prod.mk.injEq]at h
   obtain⟨h1,rfl⟩:=h
   exact .inr ⟨n,ti,rfl,hf,h1⟩
 |_=>simp[placeOf]at h
def wz (M:Nat->Prop) (w:World) (β:aV):List (Nat×AV)->List (Nat×Value)->Prop
 |[],[]=>True
 |(i,a)::l,(j,x)::xs=>i=j/\bP M w β a x/\wz M w β l xs
 |_,_=>False
theorem JI {M:Nat->Prop} {d:TypeDesc} {place:Nat->Option (Nat×Nat)} (hp:∀i off t ti,placeOf T d i=some (off,t)->look t T=some ti->place i=some (off,ti.size)):
  ∀{ps:List (Nat×AV)} {xs:List (Nat×Value)} {l m:List AV} {cells:Array Value},sZ T d l ps=some m->wz M w β ps xs->aO M w β l cells.toList->
   ∃cells',Instr.fill place cells xs=some cells'/\aO M w β m cells'.toList
 |[],[],l,m,cells,hs,_,hc=>by
  simp only[sZ,ay]at hs
  subst hs
  exact⟨cells,by rw[Instr.fill.eq_1],hc⟩
 |(i,a)::ps,(j,x)::xs,l,m,cells,hs,hx,hc=>by
  obtain⟨rfl,hx,hxs⟩:=hx
  simp only[sZ]at hs
  cases hpl:placeOf T d i with
  |none=>rw[hpl]at hs;simp at hs
  |some q=>
   obtain⟨off,t⟩:=q
   rw[hpl]at hs
   simp only at hs
   cases hk:jF T (.agg l) i off t with
   |none=>rw[hk]at hs;simp at hs
   |some k=>
    rw[hk]at hs
    simp only at hs
    split at hs
    ·rename_i hcond
     simp only[Bool.and_eq_true,beq_iff_eq,Bool.not_eq_true']at hcond
     obtain⟨⟨hsz,hag⟩,htup⟩:=hcond
     obtain⟨ti,pr,cc,po,ht,_,hcs,hpr,hcl,_,_,hks,h0,_,hset⟩:=BM (cs:=cells.toList) hk (by simpa using aO.agg hc .nil)
     have hx1:=hx.one htup
     have hxc:=hx1.cells
     have hxl:x.cells.toList.length=ti.size:=by rw[hxc.length];simp[sizes];omega
     have hbound:off+x.cells.toList.length<=cells.size:=by
      have:cells.toList.length=pr.length+(cc.length+po.length):=by rw[hcs];simp
      rw[Array.length_toList]at this
      omega
     have hspl:(splice cells off x.cells.toList).toList=pr++(x.cells.toList++po):=by
      simp only[splice,hcs]
      rw[hxl,<-hpr,<-hcl]
      simp
     have:=hset a _ hxc
     obtain⟨cells',hf,hr⟩:=JI hp (l:=l.set i a) (cells:=splice cells off x.cells.toList) hs hxs (by rw[hspl];simpa [AV.kids]using this)
     refine⟨cells',?_,hr⟩
     have hxs':x.cells.size=ti.size:=by rw[<-Array.length_toList,hxl]
     have hb':¬cells.size<off+x.cells.size:=by rw[<-Array.length_toList]at hbound;rw[Array.length_toList]at hbound;simp only[Array.length_toList]at hbound;omega
     rw[Instr.fill.eq_2,hp i off t ti hpl ht]
     simp only[hxs',ne_eq,not_true,decide_false,Bool.false_or,bD,gt_iff_lt]
     rw[hxs']at hb'
     rw[if_neg hb']
     have:=On cells off x.cells.toList hbound
     rw[Array.toArray_toList]at this
     rw[this];exact hf
    ·simp at hs
 |[],_::_,_,_,_,_,hx,_=>hx.elim
 |_::_,[],_,_,_,_,hx,_=>hx.elim
include hT in
theorem Lh:∀(fs:List Field),(fs.all fun f=>(look f.type T).isSome)=true->
  ∃places:List (Nat×Nat),fs.mapM (fun f=>(P.info? f.type).map fun i=>(f.offset,i.size))=some places/\
   ∀(i:Nat) (f:Field) (ti:TI),fs[i]?=some f->look f.type T=some ti->places[i]?=some (f.offset,ti.size)
 |[],_=>⟨[],rfl,fun i f ti h _=>by simp at h⟩
 |f::fs,h=>by
  simp only[List.all_cons,Bool.and_eq_true]at h
  obtain⟨places,h1,h2⟩:=Lh fs h.2
  obtain⟨ti,ht⟩:=Option.isSome_iff_exists.1 h.1
  obtain⟨inf,hi,his,_⟩:=(hT _ _ ht).info
  refine⟨(f.offset,inf.size)::places,by simp[hi,h1],fun i g tj hg hj=>?_⟩
  cases i with
  |zero=>
   simp only[List.getElem?_cons_zero,ay]at hg ⊢
   subst hg
   rw[ht]at hj
   simp only[ay]at hj
   rw[his,hj]
  |succ i=>simpa using h2 i g tj (by simpa using hg) hj
include hT in
theorem ZP {M:Nat->Prop} {t:TypeId} {ti:TI} (ht:look t T=some ti) {ps:List (Nat×AV)} {xs:List (Nat×Value)} (hx:wz M w β ps xs) {m:List AV}
  (ha:ti.zero.isAgg=true) (hs:sZ T ti.desc ti.zero.kids ps=some m) (hk:Fj T ti.desc=true):
  ∃y,(Instr.build t xs.toArray).run P w=.ok y w/\bF M w β (.agg m) y:=by
 have hnt:ti.zero.isTuple=false:=by cases hz:ti.zero<;>rw[hz]at ha<;>first|rfl|cases ha
 obtain⟨inf,z,hi,hz,hrep⟩:=(hT t ti ht).zero hnt
 have hzc:=((hrep M w β).cells).kids ha
 have hu:=(hT t ti ht).dR
 have hfin:∀place:Nat->Option (Nat×Nat),(∀i off t' ti',placeOf T ti.desc i=some (off,t')->look t' T=some ti'->place i=some (off,ti'.size))->
   (∀cells,Instr.fill place z.cells xs=some cells->P.built t xs=some cells)->∃y,(Instr.build t xs.toArray).run P w=.ok y w/\bF M w β (.agg m) y:=by
  intro place hp hb
  obtain⟨cells',hf,hr⟩:=JI hp hs hx hzc
  exact⟨.agg cells',run_build w t xs.toArray cells' (by simpa using hb cells' hf),by simpa using bF.zo (v:=.agg m) (by simpa using aO.agg hr .nil) rfl⟩
 cases hd:ti.desc with
 |struct fs=>
  rw[hd]at hk
  obtain⟨places,h1,h2⟩:=Lh hT fs.toList hk
  refine hfin (fun i=>places.toArray[i]?) (fun i off t' ti' hp ht'=>?_) (fun cells hf=>?_)
  ·rcases Jf hp with⟨fs',f,hd',hf,rfl,rfl⟩|⟨n,tj,hd',_⟩
   ·rw[hd]at hd'
    simp only[TypeDesc.struct.injEq]at hd'
    subst hd'
    simpa using h2 i f ti' (by simpa using hf) ht'
   ·rw[hd]at hd';simp at hd'
  ·unfold Program.built
   rw[hi,hu,hd]
   simp only[hz,h1]
   exact hf
 |array n e=>
  rw[hd]at hk
  obtain⟨ei,he⟩:=Option.isSome_iff_exists.1 hk
  obtain⟨ie,hie,hies,_⟩:=(hT _ _ he).info
  refine hfin (fun i=>some (i*ie.size,ie.size)) (fun i off t' ti' hp ht'=>?_) (fun cells hf=>?_)
  ·rcases Jf hp with⟨fs',f,hd',_⟩|⟨n',tj,hd',hl,ho⟩
   ·rw[hd]at hd';simp at hd'
   ·rw[hd]at hd'
    simp only[TypeDesc.array.injEq]at hd'
    obtain⟨_,rfl⟩:=hd'
    rw[he]at hl ht'
    simp only[ay]at hl ht'
    subst hl;subst ht'
    rw[hies,<-ho]
  ·unfold Program.built
   rw[hi,hu,hd]
   simp only[hz,hie]
   exact hf
 |_=>rw[hd]at hk;simp[Fj]at hk
theorem cS.parts {M:Nat->Prop} {ρ:Operand->Option AV} {ev:Operand->Value} (hρ:∀x v,ρ x=some v->bP M w β v (ev x)):
  ∀{ps:List (Nat×Operand)} {l:List (Nat×AV)},kE ρ ps=some l->wz M w β l (ps.map fun p=>(p.1,ev p.2))
 |[],l,h=>by simp only[kE,ay]at h;subst h;exact trivial
 |(i,x)::ps,l,h=>by
  simp only[kE]at h
  cases hx:ρ x with
  |none=>rw[hx]at h;simp at h
  |some a=>
   cases hl:kE ρ ps with
   |none=>rw[hx,hl]at h;simp at h
   |some m=>
    rw[hx,hl]at h
    simp only[ay]at h
    subst h
    exact⟨rfl,hρ x a hx,cS.parts hρ hl⟩
theorem PI {M:Nat->Prop} {es:Nat}:∀{ps:List (Nat×AV)} {xs:List (Nat×Value)} {l m:List AV} {cells:Array Value},rT es l ps=some m->wz M w β ps xs->aO M w β l cells.toList->
   (∀a∈l,a.size=es)->∃cells',Instr.fill (fun i=>some (i*es,es)) cells xs=some cells'/\aO M w β m cells'.toList/\(∀a∈m,a.size=es)/\m.length=l.length
 |[],[],l,m,cells,hs,_,hc,hl=>by
  simp only[rT,ay]at hs
  subst hs
  exact⟨cells,by rw[Instr.fill.eq_1],hc,hl,rfl⟩
 |(i,a)::ps,(j,x)::xs,l,m,cells,hs,hx,hc,hl=>by
  obtain⟨rfl,hx,hxs⟩:=hx
  simp only[rT]at hs
  split at hs
  ·rename_i hcond
   simp only[Bool.and_eq_true,beq_iff_eq,Bool.not_eq_true',bD]at hcond
   obtain⟨⟨hsz,htup⟩,hlt⟩:=hcond
   have hx1:=hx.one htup
   have hxc:=hx1.cells
   have hxl:x.cells.toList.length=es:=by rw[hxc.length];simp[sizes];omega
   obtain⟨pr,cc,po,hcs,hpr,hcc,hset⟩:=hc.at i l[i] (by simp[hlt])
   have hccl:cc.length=es:=by rw[hcc.length];simp[sizes,hl l[i] (by simp)]
   have hsizes:∀l':List AV,(∀a∈l',a.size=es)->sizes l'=l'.length*es:=by
    intro l' hl'
    induction l' with
    |nil=>simp[sizes]
    |cons b l' ih=>simp[sizes,hl' b (by simp),ih fun a ha=>hl' a (by simp[ha]),Nat.add_mul];omega
   have hprl:pr.length=i*es:=by
    rw[hpr,hsizes _ fun a ha=>hl a (List.mem_of_mem_take ha)]
    rw[List.length_take,Nat.min_eq_left aa]
   have hbound:i*es+x.cells.toList.length<=cells.size:=by
    have:cells.toList.length=pr.length+(cc.length+po.length):=by rw[hcs];simp
    rw[Array.length_toList]at this
    omega
   have hspl:(splice cells (i*es) x.cells.toList).toList=pr++(x.cells.toList++po):=by
    simp only[splice,hcs]
    rw[hxl,<-hprl,<-hccl]
    simp
   obtain⟨cells',hf,hr,h1,h2⟩:=PI (l:=l.set i a) (cells:=splice cells (i*es) x.cells.toList) hs hxs (by rw[hspl];exact hset a _ hxc)
    (fun b hb=>by
     rcases List.mem_or_eq_of_mem_set hb with hb|hb
     ·exact hl b hb
     ·rw[hb];exact hsz)
   refine⟨cells',?_,hr,h1,by simpa using h2⟩
   have hxs':x.cells.size=es:=by rw[<-Array.length_toList,hxl]
   rw[Instr.fill.eq_2]
   have hb':¬cells.size<i*es+es:=by rw[hxl]at hbound;omega
   simp only[hxs',ne_eq,not_true,decide_false,Bool.false_or,bD,gt_iff_lt,if_neg hb']
   have:=On cells (i*es) x.cells.toList hbound
   rw[Array.toArray_toList]at this
   rw[this];exact hf
  ·simp at hs
 |[],_::_,_,_,_,_,hx,_,_=>hx.elim
 |_::_,[],_,_,_,_,hx,_,_=>hx.elim
theorem aO.nth {M:Nat->Prop} {es:Nat} {z:AV}:∀{l:List AV} {cs:List Value},aO M w β l cs->(∀a∈l,a.size=es)->∀i,i<l.length->
  ∃ps,ps.length=es/\aO M w β [nth l z i] ps/\∀j v,ps[j]?=some v->cs[i*es+j]?=some v
 |[],cs,h,_,i,hi=>by simp at hi
 |a::l,cs,h,hs,0,hi=>by
  obtain⟨c1,c2,rfl,h1,h2⟩:=h.split
  refine⟨c1,by rw[h1.length];simp[sizes,hs a (by simp)],by simpa [Am.nth]using h1,fun j v hv=>?_⟩
  have:=(List.getElem?_eq_some_iff.1 hv).1
  rw[Nat.zero_mul,Nat.zero_add,List.getElem?_append_left this];exact hv
 |a::l,cs,h,hs,i+1,hi=>by
  obtain⟨c1,c2,rfl,h1,h2⟩:=h.split
  obtain⟨ps,p1,p2,p3⟩:=aO.nth (z:=z) h2 (fun b hb=>hs b (by simp[hb])) i (by simpa using hi)
  refine⟨ps,p1,by simpa [Am.nth]using p2,fun j v hv=>?_⟩
  have hc1:c1.length=es:=by rw[h1.length];simp[sizes,hs a (by simp)]
  rw[Nat.add_mul,Nat.one_mul,List.getElem?_append_right aa]
  have:i*es+es+j-c1.length=i*es+j:=aa
  rw[this];exact p3 j v hv
theorem J0 {z:Array Value} {m i j:Nat} (hj:j<z.size) (hi:i<m):(madeCells z (m*z.size))[i*z.size+j]?=z[j]?:=by
 have hlt:i*z.size+j<m*z.size:=by
  have:=Nat.mul_le_mul_right z.size (show i+1<=m by omega)
  rw[Nat.add_mul]at this;omega
 have hmod:(i*z.size+j)%z.size=j:=by rw[Nat.mul_comm,Nat.mul_add_mod,Nat.mod_eq_of_lt hj]
 simp[madeCells,hlt,hmod,hj]
include hT in
theorem N9 (h:bB c st D β w) (hD:∀k,D k->D' k) {K:Nat} (hK:¬D K) (hDK:D' K) {t:TypeId} {ti ei:TI} (ht:look t T=some ti) {e:TypeId} (hd:ti.desc=.slice e) (he:look e T=some ei)
  (h1:ei.size≠0) (h2:ei.zero.size=ei.size) (h3:ei.zero.isTuple=false) {n m:Int} (n0:0<=n) (nm:n<=m) (m1:m<=2^47) (m2:m*ei.bytes<=2^47):
  ∃x w',(Instr.makeSlice t (.int .i64 n) (.int .i64 m)).run P w=.ok x w'/\
   fM c st D' β w [(K,some ⟨true,true,ei.size,n.toNat,fun _=>ei.zero⟩)] (.own K ei.size 0 n.toNat) x w'/\∃base,x=.slice base n.toNat m.toNat:=by
 obtain⟨i,z,hi,hz,hrep⟩:=(hT e ei he).zero h3
 obtain⟨i',hi',his,hib⟩:=(hT e ei he).info
 rw[hi]at hi'
 simp only[ay]at hi'
 subst hi'
 have hc:=(hrep (aN c st β) w bE).cells
 have hl:z.cells.size=ei.size:=by rw[<-Array.length_toList,hc.length];simp[sizes,h2]
 have hrun:=run_make (P:=P) w t e i z (hd▸(hT t ti ht).dR) hi hz .i64 .i64 n m n0 nm (by rw[hib,Int.mul_comm];omega) aa
 rw[his,<-hl]at hrun
 refine⟨_,_,hrun,⟨β.set K (w.heap.size,m.toNat,n.toNat),?_⟩,_,rfl⟩
 obtain⟨q1,q2⟩:=h.alloc (D':=D') (o:=⟨true,true,ei.size,n.toNat,fun _=>ei.zero⟩) hK hD hDK rfl (cs:=madeCells z.cells (m.toNat*z.cells.size)) (ty:=e) (N:=m.toNat) (by simp[size_madeCells,hl]) (by simp;omega) (by simp;omega)
  (fun j hj=>⟨z.cells.toList,by simp[hl],by simpa using hc,fun k v hv=>by
   have hk:k<z.cells.size:=by simpa using(List.getElem?_eq_some_iff.1 hv).1
   simp only[<-hl]
   rw[J0 hk (by simp only at hj;omega)]
   simpa using hv⟩)
 refine⟨q1,q2,bF.bY (.cK ?_ rfl)⟩
 exact aO.own (N:=(m.toNat,n.toNat)) (aV.gR _ _ _) ⟨by simp,by simp⟩ aa (.inr (by simp)) aa .nil
end ops
end Go.Am
namespace Go.Am
open AV
section ops
variable {P:Program} {T:Types} (hT:eE P T)
variable {c:Ctx} {st pre:aE} {D D':Nat->Prop} {β:aV} {w:World}
mutual
theorem Wv {pre:aE}:∀{v u:AV},dF pre v=some u->u.size=v.size
 |.bool _,u,h|.int _ _,u,h|.rat _ _,u,h|.mag _,u,h|.ak _ _ _,u,h|.eJ _ _ _ _,u,h|.nil,u,h|.void,u,h|.str _,u,h|.b9 _,u,h=>by
  simp only[dF,ay]at h;subst h;rfl
 |.ptr _ _ _ _ _,u,h|.tuple _,u,h=>by simp[dF]at h
 |.cC c v,u,h=>by
  simp only[dF]at h
  cases hl:dF pre v with
  |none=>rw[hl]at h;simp at h
  |some m=>rw[hl]at h;simp only[ay]at h;subst h;rfl
 |.func _ l,u,h=>by
  simp only[dF]at h
  cases hl:fP pre l with
  |none=>rw[hl]at h;simp at h
  |some m=>
   rw[hl]at h
   simp only at h
   split at h
   ·simp only[ay]at h;subst h;rfl
   ·simp at h
 |.own k es s n,u,h=>by
  simp only[dF]at h
  cases hl:look k pre with
  |none=>rw[hl]at h;simp at h
  |some o=>
   rw[hl]at h
   simp only at h
   split at h
   ·simp only[ay]at h;subst h;rfl
   ·simp at h
 |.agg l,u,h=>by
  simp only[dF]at h
  cases hl:fP pre l with
  |none=>rw[hl]at h;simp at h
  |some m=>
   rw[hl]at h
   simp only[ay]at h;subst h
   simp only[size]
   exact(D5 hl).1
theorem D5 {pre:aE}:∀{l m:List AV},fP pre l=some m->sizes m=sizes l/\m.length=l.length/\∀es,(∀a∈l,a.size=es)->∀a∈m,a.size=es
 |[],m,h=>by simp only[fP,ay]at h;subst h;simp
 |a::l,m,h=>by
  simp only[fP]at h
  cases ha:dF pre a with
  |none=>rw[ha]at h;simp at h
  |some b=>
   cases hl:fP pre l with
   |none=>rw[ha,hl]at h;simp at h
   |some m'=>
    rw[ha,hl]at h
    simp only[ay]at h
    subst h
    obtain⟨h1,h2,h3⟩:=D5 hl
    have h4:=Wv ha
    refine⟨by simp[sizes,h1,h4],by simp[h2],fun es hes x hx=>?_⟩
    rcases List.mem_cons.1 hx with rfl|hx
    ·rw[h4];exact hes a (by simp)
    ·exact h3 es (fun y hy=>hes y (by simp[hy])) x hx
end
theorem Sb (z:Array Value) (n:Nat):(madeCells z ((n+1)*z.size)).toList=z.toList++(madeCells z (n*z.size)).toList:=by
 apply List.ext_getElem?
 intro i
 by_cases hz:z.size=0
 ·have h2:z.toList=[]:=by rw[<-Array.length_toList]at hz;exact List.length_eq_zero_iff.1 hz
  simp[madeCells,hz,Array.range_zero',h2]
 by_cases hi:i<z.size
 ·rw[List.getElem?_append_left (by simpa using hi)]
  have:=J0 (z:=z) (m:=n+1) (i:=0) hi aa
  simpa using this
 ·rw[List.getElem?_append_right (by simpa using hi)]
  simp only[Array.length_toList,Array.getElem?_toList]
  simp only[madeCells,Array.getElem?_map]
  by_cases h2:i<(n+1)*z.size
  ·have h3:i-z.size<n*z.size:=by rw[Nat.add_mul]at h2;omega
   have h4:(i-z.size)%z.size=i%z.size:=by
    have:i=(i-z.size)+z.size:=aa
    rw[this,Nat.add_mod_right];congr 1;omega
   simp[h2,h3,h4]
  ·have h3:¬i-z.size<n*z.size:=by rw[Nat.add_mul]at h2;omega
   simp[h2,h3]
theorem Lq {M:Nat->Prop} {a:AV} {z:Array Value} (h:aO M w β [a] z.toList):∀n:Nat,aO M w β (List.replicate n a) (madeCells z (n*z.size)).toList
 |0=>by simpa [madeCells,Array.range_zero']using aO.nil
 |n+1=>by
  rw[Sb,List.replicate_succ]
  exact h.cons (Lq h n)
include hT in
theorem XR (h:bB c st D β w) (hpre:∀k o,look k pre=some o->look k st=some o) (hD:∀k,D k->D' k) {K:Nat} (hK:¬D K) (hDK:D' K) {t:TypeId} {ti ei:TI} (ht:look t T=some ti) {e:TypeId}
  (hd:ti.desc=.slice e) (he:look e T=some ei) (h1:ei.size≠0) (h2:ei.zero.size=ei.size) (h3:ei.zero.isTuple=false) {n:Nat} {ps:List (Nat×AV)} {xs:List (Nat×Value)}
  (hx:wz (aN c st β) w β ps xs) {m m':List AV} (hs:rT ei.size (List.replicate n ei.zero) ps=some m) (hf:fP pre m=some m') (hn:n*ei.size<=2^24):
  ∃x w',(Instr.buildSlice t n xs.toArray).run P w=.ok x w'/\fM c st D' β w [(K,some ⟨true,true,ei.size,n,nth m' ei.zero⟩)] (.own K ei.size 0 n) x w':=by
 obtain⟨i,z,hi,hz,hrep⟩:=(hT e ei he).zero h3
 obtain⟨i',hi',his,hib⟩:=(hT e ei he).info
 rw[hi]at hi'
 simp only[ay]at hi'
 subst hi'
 have hc:=(hrep (aN c st β) w β).cells
 have hl:z.cells.size=ei.size:=by rw[<-Array.length_toList,hc.length];simp[sizes,h2]
 obtain⟨cells,g1,g2,g3,g4⟩:=PI (es:=ei.size) hs hx (cells:=madeCells z.cells (n*z.cells.size)) (Lq hc n) (fun a ha=>by rw[(List.mem_replicate.1 ha).2,h2])
 have g2':=AQ h hpre hf g2
 obtain⟨f1,f2,f3⟩:=D5 hf
 have g3':=f3 ei.size g3
 have hlen:m'.length=n:=by rw[f2,g4];simp
 have hcl:cells.size=n*ei.size:=by
  rw[<-Array.length_toList,g2'.length]
  have:∀l':List AV,(∀a∈l',a.size=ei.size)->sizes l'=l'.length*ei.size:=by
   intro l' hl'
   induction l' with
   |nil=>simp[sizes]
   |cons b l' ih=>simp[sizes,hl' b (by simp),ih fun a ha=>hl' a (by simp[ha]),Nat.add_mul];omega
  rw[this _ g3',hlen]
 have hrun:(Instr.buildSlice t n xs.toArray).run P w=.ok (.slice (some ⟨w.heap.size,0,none⟩) n n) (w.alloc (.cells cells e)):=by
  have hbig:¬2^24<n*i.size:=by rw[his];omega
  rw[his,<-hl]at hbig
  rw[<-hl]at g1
  by_cases h0:n*z.cells.size=0
  ·have:madeCells z.cells (n*z.cells.size)=#[]:=by rw[h0];simp[madeCells,Array.range_zero']
   rw[this]at g1
   simp[Instr.buildSlice,run_underlying (hd▸(hT t ti ht).dR),sizeOf,typeInfo,hi,his,<-hl,h0,newRow,Array.range_zero',g1]
  ·have hb2:¬16777216<n*z.cells.size:=aa
   have g1':Instr.fill (fun i=>some (i*z.cells.size,z.cells.size)) (Array.map (fun x=>z.cells[x%z.cells.size]!) (Array.range (n*z.cells.size))) xs=some cells:=g1
   simp[Instr.buildSlice,run_underlying (hd▸(hT t ti ht).dR),sizeOf,typeInfo,zeroValue,hi,hz,his,<-hl,h0,hb2,newRow,g1']
 refine⟨_,_,hrun,β.set K (w.heap.size,n,n),?_⟩
 obtain⟨q1,q2⟩:=h.alloc (D':=D') (o:=⟨true,true,ei.size,n,nth m' ei.zero⟩) hK hD hDK rfl (cs:=cells) (ty:=e) (N:=n) (by simp[hcl]) (by simp;omega) (by simp)
  (fun j hj=>by
   obtain⟨ps',p1,p2,p3⟩:=g2'.nth (z:=ei.zero) g3' j (by simp only at hj;omega)
   exact⟨ps',p1,p2,fun k v hv=>by simpa using p3 k v hv⟩)
 refine⟨q1,q2,bF.bY (.cK ?_ rfl)⟩
 exact aO.own (N:=(n,n)) (aV.gR _ _ _) ⟨by simp,by simp⟩ aa (.inr (by simp)) aa .nil
theorem jw {M:Nat->Prop} {ρ:Operand->Option AV} {ev:Operand->Value} (hρ:∀x v,ρ x=some v->bP M w β v (ev x)) {d:Int} {x:Option Operand} {n:Int} (h:cX ρ d x=some n):
  (x=none/\n=d)\/∃k o,x=some o/\ev o=.int k n:=by
 cases x with
 |none=>simp only[cX,ay]at h;exact .inl ⟨rfl,h.symm⟩
 |some o=>
  simp only[cX]at h
  split at h
  ·rename_i k m ho
   simp only[ay]at h
   subst h
   exact .inr ⟨k,o,rfl,(hρ _ _ ho).int⟩
  ·simp at h
theorem jE (k:IntKind) (i:Int) (y:Nat) (code:BoundsCode) (h0:0<=i) (h1:i<=y):(Instr.sliceBound (.int k i) y code).run P w=.ok i.toNat w:=by
 simp[Instr.sliceBound,asIntOf,if_pos (And.intro h0 h1)]
theorem YK {M:Nat->Prop} {ρ:Operand->Option AV} {ev:Operand->Value} (hρ:∀x v,ρ x=some v->bP M w β v (ev x)) {lo hi mx:Option Operand} {l h m:Int} {n cap:Nat}
  (hl:cX ρ 0 lo=some l) (hh:cX ρ n hi=some h) (hm:cX ρ h mx=some m) (h0:0<=l) (h1:l<=h) (h2:h<=m) (h3:m<=n) (h4:n<=cap) (hmx:mx.isSome=true->hi.isSome=true):
  ∃m':Nat,(Instr.sliceBounds true n cap (lo.map ev) (hi.map ev) (mx.map ev)).run P w=.ok (l.toNat,h.toNat,m') w/\h.toNat<=m'/\m'<=cap:=by
 rcases jw hρ hm with⟨rfl,rfl⟩|⟨km,om,rfl,hom⟩
 ·refine⟨cap,?_,aa,aT⟩
  rcases jw hρ hh with⟨rfl,rfl⟩|⟨kh,oh,rfl,hoh⟩
  ·rcases jw hρ hl with⟨rfl,rfl⟩|⟨kl,ol,rfl,hol⟩
   ·simp[Instr.sliceBounds]
   ·simp[Instr.sliceBounds,hol,jE kl l n .sliceB h0 h1]
  ·have b2:=jE (P:=P) (w:=w) kh m cap .sliceAcap aa aa
   rcases jw hρ hl with⟨rfl,rfl⟩|⟨kl,ol,rfl,hol⟩
   ·simp[Instr.sliceBounds,hoh,b2]
   ·simp[Instr.sliceBounds,hol,hoh,b2,jE kl l m.toNat .sliceB h0 aa]
 ·refine⟨m.toNat,?_,aa,aa⟩
  have b1:=jE (P:=P) (w:=w) km m cap .slice3Acap aa aa
  rcases jw hρ hh with⟨rfl,rfl⟩|⟨kh,oh,rfl,hoh⟩
  ·simp at hmx
  ·have b2:=jE (P:=P) (w:=w) kh h m.toNat .slice3B aa aa
   rcases jw hρ hl with⟨rfl,rfl⟩|⟨kl,ol,rfl,hol⟩
   ·simp[Instr.sliceBounds,hom,hoh,b1,b2]
   ·simp[Instr.sliceBounds,hom,hol,hoh,b1,b2,jE kl l h.toNat .slice3C h0 aa]
include hT in
theorem zE {t:TypeId} {ti ei:TI} (ht:look t T=some ti) {e:TypeId} (hd:ti.desc=.slice e) (he:look e T=some ei) {base:Option Addr} {n cap:Nat} {lo hi mx:Option Value} {l h m:Nat}
  (hb:(Instr.sliceBounds true n cap lo hi mx).run P w=.ok (l,h,m) w):
  (Instr.sliceAt t (.slice base n cap) lo hi mx).run P w=.ok (.slice (if m=l then base else base.map (·.add (l*ei.size))) (h-l) (m-l)) w:=by
 obtain⟨inf,hi',his,_⟩:=(hT e ei he).info
 have hu:=hd▸(hT t ti ht).dR
 simp only[Instr.sliceAt,Sem.run_bind,run_underlying hu w,Result.andThen_ok,Instr.slice,hb,sizeOf,typeInfo,run_program,hi',his,Sem.run_pure]
theorem qo (h:bB c st D β w) (hpre:∀k o,look k pre=some o->look k st=some o) {es:Nat} (h0:0<es) {y:AV} {x:Value} (hy:bP (aN c st β) w β y x) {m:Nat} {g:Nat->AV}
  (hr:readAll pre es y=some (m,g)):∃base cap,∃cf:Nat->List Value,x=.slice base m cap/\(m=0\/∃b o,base=some ⟨b,o,none⟩/\∀i,i<m->w.rangeAt b (o+i*es) (cf i))/\m<=cap/\
   (base=none->m=0)/\∀i,i<m->(cf i).length=es/\aO (aN c st β) w bE [g i] (cf i):=by
 cases y with
 |ak e n f=>
  simp only[readAll]at hr
  split at hr
  ·rename_i hc
   simp only[ay,Prod.mk.injEq]at hr
   obtain⟨rfl,rfl⟩:=hr
   have hc':e=es:=by simpa using hc
   subst hc'
   obtain⟨base,cap,cf,rfl,g1,g2,g3,g4,g5⟩:=hy.ak
   refine⟨base,cap,cf,rfl,?_,g3,?_,fun i hi=>⟨g4 i hi,g5 i hi⟩⟩
   ·rcases g1 with g1|⟨b,o,rfl,g1⟩
    ·exact .inl g1
    ·exact .inr ⟨b,o,rfl,fun i hi=>(g1 i hi).range⟩
   ·rintro rfl
    rcases g1 with g1|⟨b,o,hb,g1⟩
    ·exact g1
    ·simp at hb
  ·simp at hr
 |mag N=>
  simp only[readAll]at hr
  split at hr
  ·rename_i hc
   simp only[ay,Prod.mk.injEq]at hr
   obtain⟨rfl,rfl⟩:=hr
   have hc':es=1:=by simpa using hc
   subst hc'
   obtain⟨base,cap,rfl,g1,g2⟩:=hy.mag
   refine⟨base,cap,fun i=>[.int .u32 (aD N i)],rfl,?_,g2,?_,fun i hi=>⟨rfl,.int .nil⟩⟩
   ·rcases g1 with g1|⟨b,o,rfl,g1⟩
    ·left;rw[g1,we]
    ·refine .inr ⟨b,o,rfl,fun i hi j v hv=>?_⟩
     have hj:j=0:=by have:=(List.getElem?_eq_some_iff.1 hv).1;simp at this;exact this
     subst hj
     simp only[List.getElem?_cons_zero,ay]at hv
     subst hv
     have:=g1.range i _ (CK hi)
     simpa using this
   ·rintro rfl
    rcases g1 with g1|⟨b,o,hb,g1⟩
    ·rw[g1,we]
    ·simp at hb
  ·simp at hr
 |nil=>
  simp only[readAll,ay,Prod.mk.injEq]at hr
  obtain⟨rfl,rfl⟩:=hr
  have:=hy.nil
  subst this
  exact⟨none,0,fun _=>[],rfl,.inl rfl,aT,fun _=>rfl,fun i hi=>aa⟩
 |own k e s n=>
  simp only[readAll]at hr
  split at hr
  ·rename_i hc
   have hc':e=es:=by simpa using hc
   cases hk:look k pre with
   |none=>rw[hk]at hr;simp at hr
   |some o=>
    rw[hk]at hr
    simp only at hr
    split at hr
    ·rename_i hc2
     simp only[ay,Prod.mk.injEq]at hr
     obtain⟨rfl,rfl⟩:=hr
     simp only[Bool.and_eq_true,beq_iff_eq]at hc2
     rcases hy.own with g|⟨rfl,_,rfl,_⟩
     rotate_left
     ·exact⟨none,0,fun _=>[],rfl,.inl rfl,aT,fun _=>rfl,fun i hi=>aa⟩
     obtain⟨b,off,cap,N,rfl,g1,g2,g3,g4,g5,g6⟩:=g
     have hk':=hpre k o hk
     obtain⟨b1,N1,cs1,ty1,a1,a2,a3,a4,⟨a5,a5'⟩,a6,a7,a8⟩:=h.obj k o hk' _ g1
     rw[g1]at a1
     simp only[ay,Prod.mk.injEq]at a1
     obtain⟨rfl,rfl⟩:=a1
     have hcf:∀i,∃ps:List Value,i<n->ps.length=es/\aO (aN c st β) w bE [o.f (i+s)] ps/\∀j v,ps[j]?=some v->cs1[(i+s)*o.es+j]?=some v:=fun i=>by
      by_cases hi:i<n
      ·obtain⟨ps,p1,p2,p3⟩:=a8 (i+s) aa
       rw[hc2.1]at p2
       exact⟨ps,fun _=>⟨aa,p2,p3⟩⟩
      ·exact⟨[],fun h=>absurd h hi⟩
     refine⟨_,cap,fun i=>Classical.choose (hcf i),rfl,?_,g4,by simp,fun i hi=>⟨(Classical.choose_spec (hcf i) hi).1,(Classical.choose_spec (hcf i) hi).2.1⟩⟩
     by_cases hn:n=0
     ·exact .inl hn
     ·refine .inr ⟨b,off,rfl,fun i hi j v hv=>?_⟩
      have:=(Classical.choose_spec (hcf i) hi).2.2 j v hv
      rw[uv a2]
      have ho:off+i*es=(i+s)*o.es:=by
       rcases g5 with g5|g5
       ·omega
       ·rw[g5,hc2.2,hc',Nat.add_mul];omega
      rw[ho];exact this
    ·simp at hr
  ·simp at hr
 |_=>simp[readAll]at hr
def flat (cf:Nat->List Value) (m:Nat):List Value:=(List.range m).flatMap cf
theorem sw (cf:Nat->List Value) (m:Nat):flat cf (m+1)=flat cf m++cf m:=by simp[flat,List.range_succ]
theorem mF {cf:Nat->List Value} {es:Nat}:∀{m:Nat},(∀i,i<m->(cf i).length=es)->(flat cf m).length=m*es
 |0,_=>by simp[flat]
 |m+1,h=>by rw[sw,List.length_append,mF fun i hi=>h i aa,h m aa,Nat.add_mul,Nat.one_mul]
theorem oV {cf:Nat->List Value} {es:Nat}:∀{m:Nat},(∀i,i<m->(cf i).length=es)->∀{i j:Nat},i<m->j<es->(flat cf m)[i*es+j]?=(cf i)[j]?
 |0,_,i,j,hi,_=>aa
 |m+1,h,i,j,hi,hj=>by
  have hl:=mF (cf:=cf) (es:=es) (m:=m) fun i hi=>h i aa
  rw[sw]
  by_cases him:i<m
  ·have:=Nat.mul_le_mul_right es (show i+1<=m by omega)
   rw[Nat.add_mul,Nat.one_mul]at this
   rw[List.getElem?_append_left aa]
   exact oV (fun i hi=>h i aa) him hj
  ·have:i=m:=aa
   subst this
   rw[List.getElem?_append_right aa,hl]
   congr 1;omega
theorem RM {cf:Nat->List Value} {es m:Nat} (h0:0<es) (h:∀i,i<m->(cf i).length=es) {k:Nat} {v:Value} (hv:(flat cf m)[k]?=some v):
  k/es<m/\(cf (k/es))[k%es]?=some v:=by
 have hk:=(List.getElem?_eq_some_iff.1 hv).1
 rw[mF h]at hk
 have h1:k/es<m:=(Nat.div_lt_iff_lt_mul h0).2 hk
 refine⟨h1,?_⟩
 rw[<-oV h h1 (Nat.mod_lt _ h0)]
 have:k/es*es+k%es=k:=by rw[Nat.mul_comm];exact Nat.div_add_mod k es
 rw[this];exact hv
theorem zU {M:Nat->Prop} {cf:Nat->List Value} {g:Nat->AV} {m:Nat} (h:∀i,i<m->aO M w β [g i] (cf i)):∀v∈flat cf m,v.oneCell'=true:=by
 intro v hv
 obtain⟨i,hi,hv⟩:=List.mem_flatMap.1 hv
 exact(h i (by simpa using hi)).Dj v hv
end ops
end Go.Am
namespace Go.Am
open AV
section ops
variable {P:Program} {T:Types} (hT:eE P T)
variable {c:Ctx} {st pre:aE} {D D':Nat->Prop} {β:aV} {w:World}
theorem sS {es m cap:Nat} {base:Option Addr} {cf:Nat->List Value} (h0:0<es) (hl:∀i,i<m->(cf i).length=es)
  (hm:m=0\/∃b o,base=some ⟨b,o,none⟩/\∀i,i<m->w.rangeAt b (o+i*es) (cf i)) (l:Nat):(Builtin.firstCells es m (.slice base l cap)).run P w=.ok (flat cf m).toArray w:=by
 cases base with
 |none=>
  rcases hm with rfl|⟨b,o,hb,_⟩
  ·simp[Builtin.firstCells,flat]
  ·simp at hb
 |some a=>
  refine run_firstCells_some w es m a l cap _ (mF hl) fun j v hv=>?_
  obtain⟨h1,h2⟩:=RM h0 hl hv
  rcases hm with rfl|⟨b,o,hb,hr⟩
  ·simp[flat]at hv
  ·simp only[ay]at hb
   subst hb
   have:=hr _ h1 _ _ h2
   rw[Addr.add_mid]
   have hj:o+j=o+j/es*es+j%es:=by
    have:j/es*es+j%es=j:=by rw[Nat.mul_comm];exact Nat.div_add_mod j es
    omega
   rw[hj];exact this
include hT in
theorem zI {t:TypeId} {ti:TI} (ht:look t T=some ti) {e:TypeId} (hd:ti.desc=.slice e) {es:Nat} {m cap:Nat} {base:Option Addr} {cf:Nat->List Value} {g:Nat->AV} {M:Nat->Prop} (h0:0<es)
  (hm:m=0\/∃b o,base=some ⟨b,o,none⟩/\∀i,i<m->w.rangeAt b (o+i*es) (cf i)) (hc:∀i,i<m->(cf i).length=es/\aO M w bE [g i] (cf i)):
  Src P es t (.slice base m cap) m (flat cf m) w:=
 ⟨.inl ⟨e,hd▸(hT t ti ht).dR⟩,fun _=>rfl,sS h0 (fun i hi=>(hc i hi).1) hm m,sS (w:=w.drew) h0 (fun i hi=>(hc i hi).1) (hm.imp id fun⟨b,o,h1,h2⟩=>⟨b,o,h1,fun i hi=>h2 i hi⟩) m,
  mF fun i hi=>(hc i hi).1,zU fun i hi=>(hc i hi).2⟩
theorem uB (z:Array Value) (n:Nat):(Builtin.zeroCells z n).size=n*z.size:=by simp[Builtin.zeroCells]
theorem bB.elems (h:bB c st D β w) {k:Nat} {o:ax} (hk:look k st=some o) (hr:o.row=true) {b:Nat} {N:Nat×Nat} (hb:β k=some (b,N)):
  ∃cs ty,∃cf:Nat->List Value,w.heap[b]?=some (.cells cs ty (0,0))/\cs.size=N.1*o.es/\0<o.es/\o.len=N.2/\o.len<=N.1/\
   ∀i,i<o.len->(cf i).length=o.es/\aO (aN c st β) w bE [o.f i] (cf i)/\∀j v,(cf i)[j]?=some v->cs[i*o.es+j]?=some v:=by
 obtain⟨b1,N1,cs1,ty1,a1,a2,a3,a4,⟨a5,a5'⟩,a6,a7,a8⟩:=h.obj k o hk _ hb
 rw[hb]at a1
 simp only[ay,Prod.mk.injEq]at a1
 obtain⟨rfl,rfl⟩:=a1
 have hcf:∀i,∃ps:List Value,i<o.len->ps.length=o.es/\aO (aN c st β) w bE [o.f i] ps/\∀j v,ps[j]?=some v->cs1[i*o.es+j]?=some v:=fun i=>by
  by_cases hi:i<o.len
  ·obtain⟨ps,p1,p2,p3⟩:=a8 i hi
   rw[hr]at p2
   exact⟨ps,fun _=>⟨p1,p2,p3⟩⟩
  ·exact⟨[],fun h=>absurd h hi⟩
 exact⟨cs1,ty1,fun i=>Classical.choose (hcf i),a2,a3,a4,a5,a5',fun i hi=>Classical.choose_spec (hcf i) hi⟩
theorem OG {cf cg:Nat->List Value}:∀{m:Nat},(∀i,i<m->cf i=cg i)->flat cf m=flat cg m
 |0,_=>rfl
 |m+1,h=>by rw[sw,sw,OG fun i hi=>h i aa,h m aa]
theorem FQ (cf cg:Nat->List Value) (n m:Nat):flat cf n++flat cg m=flat (fun i=>if i<n then cf i else cg (i-n)) (n+m):=by
 induction m with
 |zero=>
  rw[show flat cg 0=[]from rfl,List.append_nil,Nat.add_zero]
  exact OG fun i hi=>by rw[if_pos hi]
 |succ m ih=>
  rw[sw,<-List.append_assoc,ih,<-Nat.add_assoc,sw]
  congr 1
  rw[if_neg aa]
  congr 1;omega
theorem bB.vX (h:bB c st D β w) {K:Nat} (hK:¬D K) (hD:∀k,D k->D' k) (hDK:D' K) {es len C:Nat} {f:Nat->AV} {cf:Nat->List Value} (h0:0<es) (hlen:len<=C)
  (hcf:∀i,i<len->(cf i).length=es/\aO (aN c st β) w bE [f i] (cf i)) {Z:Array Value} (hZ:Z.size=(C-len)*es) {ty:TypeId}:
  bB c (put K ⟨true,true,es,len,f⟩ st) D' (β.set K (w.heap.size,C,len)) (w.alloc (.cells ((flat cf len).toArray++Z) ty))/\
   dH (aN c st β) w β (aN c (put K ⟨true,true,es,len,f⟩ st) (β.set K (w.heap.size,C,len))) (w.alloc (.cells ((flat cf len).toArray++Z) ty)) (β.set K (w.heap.size,C,len)):=by
 have hfl:=mF (cf:=cf) (m:=len) (es:=es) fun i hi=>(hcf i hi).1
 refine h.alloc (D':=D') (o:=⟨true,true,es,len,f⟩) hK hD hDK rfl (N:=C) ?_ h0 hlen (fun i hi=>⟨cf i,(hcf i hi).1,(hcf i hi).2,fun j v hv=>?_⟩)
 ·simp only[Array.size_append,List.size_toArray,hfl,hZ]
  rw[<-Nat.add_mul];congr 1;omega
 ·have hj:=(List.getElem?_eq_some_iff.1 hv).1
  rw[(hcf i hi).1]at hj
  have:=oV (cf:=cf) (m:=len) (es:=es) (fun i hi=>(hcf i hi).1) hi hj
  have hlt:i*es+j<(flat cf len).length:=by
   have:=Nat.mul_le_mul_right es (show i+1<=len from hi)
   rw[Nat.add_mul,Nat.one_mul]at this
   rw[hfl];omega
  rw[Array.getElem?_append_left (by simpa using hlt)]
  simpa [this]using hv
include hT in
theorem Sc (h:bB c st D β w) (hpre:∀k o,look k pre=some o->look k st=some o) (hD:∀k,D k->D' k) {K:Nat} (hK:¬D K) (hDK:D' K) {t t' ty:TypeId} {ti ti' ei:TI}
  (ht:look t T=some ti) (ht':look t' T=some ti') {e e':TypeId} (hd:ti.desc=.slice e) (hd':ti'.desc=.slice e') (he:look e T=some ei) (h1:ei.size≠0) (h2:ei.zero.size=ei.size)
  (h3:ei.zero.isTuple=false)
  {y:AV} {x:Value} (hy:bP (aN c st β) w β y x) {m:Nat} {g:Nat->AV} (hr:readAll pre ei.size y=some (m,g)) (n0:0<m) (n1:m*(ei.bytes+1)*2<=2^47):
  ∃z w',(Builtin.append_ #[t,t'] ty #[.slice none 0 0,x]).run P w=.ok z w'/\fM c st D' β w [(K,some ⟨true,true,ei.size,m,g⟩)] (.own K ei.size 0 m) z w':=by
 obtain⟨i,zz,hi,hz,hrep⟩:=(hT e ei he).zero h3
 obtain⟨i',hi',his,hib⟩:=(hT e ei he).info
 rw[hi]at hi'
 simp only[ay]at hi'
 subst hi'
 have hzl:zz.cells.size=ei.size:=by rw[<-Array.length_toList,(hrep (aN c st β) w β).cells.length];simp[sizes,h2]
 obtain⟨base,cap,cf,rfl,g1,g2,g3,g4⟩:=qo h hpre aa hy hr
 have hsrc:=zI hT ht' hd' (cap:=cap) aa g1 g4
 rw[<-his]at hsrc
 have hmb:m*ei.bytes<=2^47:=Nat.le_trans (by rw[Nat.mul_assoc];exact Nat.mul_le_mul_left m aa) n1
 have hm2:m*2<=2^47:=Nat.le_trans (by rw[Nat.mul_assoc];exact Nat.mul_le_mul_left m aa) n1
 have hrun:=run_append_grow_src (P:=P) w t t' ty e i zz (hd▸(hT t ti ht).dR) hi hz none 0 0 [] (by simp[Builtin.firstCells]) (.slice base m cap) m (flat cf m) hsrc aa aa
  (growslice_fits aa (by rw[hib,Nat.zero_add];omega))
 rw[Nat.zero_add,List.nil_append]at hrun
 have hcap:m<=grownCap w m 0 e:=by simp[grownCap,Question.cut]
 generalize grownCap w m 0 e=C at hrun hcap
 refine⟨_,_,hrun,β.set K (w.heap.size,C,m),?_⟩
 have e1:dH (aN c st β) w β (aN c st β) w.drew β:=dH.drew
 obtain⟨q1,q2⟩:=h.drew.vX (D':=D') (es:=ei.size) (f:=g) (cf:=cf) hK hD hDK aa hcap (fun i hi=>⟨(g4 i hi).1,(g4 i hi).2.pE e1⟩) (Z:=Builtin.zeroCells zz.cells (C-m)) (by rw[uB,hzl]) (ty:=e)
 refine⟨q1,e1.trans q2,bF.bY (.cK ?_ rfl)⟩
 exact aO.own (N:=(C,m)) (aV.gR _ _ _) ⟨by simp,by simp⟩ hcap (.inr (by simp)) aa .nil
include hT in
theorem XW (h:bB c st D β w) (hpre:∀k o,look k pre=some o->look k st=some o) (hD:∀k,D k->D' k) {K:Nat} (hK:¬D K) (hDK:D' K) {t t' ty:TypeId} {ti ti' ei:TI}
  (ht:look t T=some ti) (ht':look t' T=some ti') {e e':TypeId} (hd:ti.desc=.slice e) (hd':ti'.desc=.slice e') (he:look e T=some ei) (h1:ei.size≠0)
  (h3:ei.zero.isTuple=false)
  {y:AV} {x:Value} (hy:bP (aN c st β) w β y x) {g:Nat->AV} (hr:readAll pre ei.size y=some (0,g)):
  ∃z w',(Builtin.append_ #[t,t'] ty #[.slice none 0 0,x]).run P w=.ok z w'/\fM c st D' β w [(K,some ⟨true,true,ei.size,0,g⟩)] (.own K ei.size 0 0) z w':=by
 obtain⟨i,zz,hi,hz,hrep⟩:=(hT e ei he).zero h3
 obtain⟨i',hi',his,hib⟩:=(hT e ei he).info
 rw[hi]at hi'
 simp only[ay]at hi'
 subst hi'
 obtain⟨base,cap,cf,rfl,g1,g2,g3,g4⟩:=qo h hpre aa hy hr
 have hsrc0:=zI hT ht' hd' (cap:=cap) aa g1 g4
 have hu:=hd▸(hT t ti ht).dR
 have hcells:=hsrc0.cells
 have hf:(flat cf 0).toArray=#[]:=by simp[flat]
 rw[hf]at hcells
 have hrun:(Builtin.append_ #[t,t'] ty #[.slice none 0 0,.slice base 0 cap]).run P w=.ok (.slice none 0 0) w:=by
  simp[Builtin.append_,run_underlying hu,run_underlying (hd'▸(hT t' ti' ht').dR),sizeOf,typeInfo,hi,Builtin.lenOf,his,hcells]
 obtain⟨q1,q2⟩:=h.Od (D':=D') (K:=K) (o:=⟨true,true,ei.size,0,g⟩) hK hD hDK rfl rfl (by simp only;omega)
 exact⟨_,_,hrun,β,q1,q2,bF.bY (.cK (.own0 aa .nil) rfl)⟩
include hT in
theorem J9 (h:bB c st D β w) (hpre:∀k o,look k pre=some o->look k st=some o) (hD:∀k,D k->D' k) {K:Nat} (hK:¬D K) (hDK:D' K) {t t' ty:TypeId} {ti ti' ei:TI}
  (ht:look t T=some ti) (ht':look t' T=some ti') {e e':TypeId} (hd:ti.desc=.slice e) (hd':ti'.desc=.slice e') (he:look e T=some ei) (h1:ei.size≠0) (h2:ei.zero.size=ei.size)
  (h3:ei.zero.isTuple=false)
  {y:AV} {x:Value} (hy:bP (aN c st β) w β y x) {m:Nat} {g:Nat->AV} (hr:readAll pre ei.size y=some (m,g))
  {k n:Nat} {o:ax} {s:Value} (hs:bP (aN c st β) w β (.own k ei.size 0 n) s) (hk:look k st=some o) (hrow:o.row=true) (hwr:o.wr=true) (hes:o.es=ei.size)
  (n1:(n+m)*(ei.bytes+1)*2<=2^47):
  ∃z w',(Builtin.append_ #[t,t'] ty #[s,x]).run P w=.ok z w'/\
   fM c st D' β w [(k,none),(K,some ⟨true,true,ei.size,n+m,fun i=>if i<n then o.f i else g (i-n)⟩)] (.own K ei.size 0 (n+m)) z w'/\∀base scap,s=.slice base n scap->n+m<=scap->∃base',z=.slice base' (n+m) scap:=by
 obtain⟨i,zz,hi,hz,hrep⟩:=(hT e ei he).zero h3
 obtain⟨i',hi',his,hib⟩:=(hT e ei he).info
 rw[hi]at hi'
 simp only[ay]at hi'
 subst hi'
 have hzl:zz.cells.size=ei.size:=by rw[<-Array.length_toList,(hrep (aN c st β) w β).cells.length];simp[sizes,h2]
 obtain⟨base,cap,cf,rfl,g1,g2,g3,g4⟩:=qo h hpre aa hy hr
 have hsrc:=zI hT ht' hd' (cap:=cap) aa g1 g4
 have hu:=hd▸(hT t ti ht).dR
 have hmb:(n+m)*ei.bytes<=2^47:=Nat.le_trans (by rw[Nat.mul_assoc];exact Nat.mul_le_mul_left _ aa) n1
 have hm2:(n+m)*2<=2^47:=Nat.le_trans (by rw[Nat.mul_assoc];exact Nat.mul_le_mul_left _ aa) n1
 rcases hs.own with hs|⟨rfl,_,rfl,_⟩
 rotate_left
 ·have hsrc0:=hsrc
  rw[<-his]at hsrc
  by_cases hm0:m=0
  ·subst hm0
   have hcells:=hsrc0.cells
   have hf:(flat cf 0).toArray=#[]:=by simp[flat]
   rw[hf]at hcells
   have hrun:(Builtin.append_ #[t,t'] ty #[.slice none 0 0,.slice base 0 cap]).run P w=.ok (.slice none 0 0) w:=by
    simp[Builtin.append_,run_underlying hu,run_underlying (hd'▸(hT t' ti' ht').dR),sizeOf,typeInfo,hi,Builtin.lenOf,his,hcells,storeCells]
   obtain⟨d1,d2⟩:=h.drop k
   obtain⟨q1,q2⟩:=d1.Od (D':=D') (K:=K) (o:=⟨true,true,ei.size,0+0,fun i=>if i<0 then o.f i else g (i-0)⟩) hK hD hDK rfl rfl (by simp only;omega)
   exact⟨_,_,hrun,⟨β,q1,d2.trans q2,bF.bY (.cK (.own0 aa .nil) rfl)⟩,fun base' scap he hle=>by cases he;exact⟨none,rfl⟩⟩
  ·have hrun:=run_append_grow_src (P:=P) w t t' ty e i zz hu hi hz none 0 0 [] (by simp[Builtin.firstCells]) (.slice base m cap) m (flat cf m) hsrc aa aa
    (growslice_fits aa (by rw[hib];omega))
   rw[List.nil_append]at hrun
   have hcap:0+m<=grownCap w (0+m) 0 e:=by simp[grownCap,Question.cut]
   generalize grownCap w (0+m) 0 e=C at hrun hcap
   have f1:dH (aN c st β) w β (aN c st β) w.drew β:=dH.drew
   obtain⟨d1,d2⟩:=h.drew.drop k
   have f2:=f1.trans d2
   obtain⟨q1,q2⟩:=d1.vX (D':=D') (es:=ei.size) (len:=0+m) (f:=fun i=>if i<0 then o.f i else g (i-0)) (cf:=cf) hK hD hDK aa hcap
    (fun i hi=>⟨(g4 i aa).1,by simp only[Nat.not_lt_zero,if_false,Nat.sub_zero];exact(g4 i aa).2.pE f2⟩) (Z:=Builtin.zeroCells zz.cells (C-(0+m))) (by rw[uB,hzl]) (ty:=e)
   rw[show flat cf (0+m)=flat cf m by rw[Nat.zero_add]]at q1 q2
   refine⟨_,_,hrun,⟨β.set K (w.heap.size,C,0+m),q1,f2.trans q2,bF.bY (.cK ?_ rfl)⟩,fun base' scap he hle=>by cases he;omega⟩
   exact aO.own (N:=(C,0+m)) (aV.gR _ _ _) ⟨by simp,by simp⟩ hcap (.inr (by simp)) aa .nil
 obtain⟨b,off,scap,N,rfl,k1,k2,k3,k4,k5,k6⟩:=hs
 obtain⟨cs,cty,cfo,e1,e2,e3,e4,e5,e6⟩:=h.elems hk hrow k1
 have hold:∀i,i<n->(cfo i).length=ei.size/\aO (aN c st β) w bE [o.f i] (cfo i)/\∀j v,(cfo i)[j]?=some v->cs[i*ei.size+j]?=some v:=fun i hi=>by
  have:=e6 i aa
  rwa [hes]at this
 have hnew:∀i,i<n+m->((fun i=>if i<n then cfo i else cf (i-n)) i).length=ei.size/\
   aO (aN c st β) w bE [(fun i=>if i<n then o.f i else g (i-n)) i] ((fun i=>if i<n then cfo i else cf (i-n)) i):=fun i hi=>by
  by_cases h':i<n
  ·simp only[if_pos h'];exact⟨(hold i h').1,(hold i h').2.1⟩
  ·simp only[if_neg h'];exact g4 (i-n) aa
 by_cases hroom:n+m<=scap
 ·-- there is room
  have hrun:∃cs',(Builtin.append_ #[t,t'] ty #[.slice (some ⟨b,off,none⟩) n scap,.slice base m cap]).run P w=.ok (.slice (some ⟨b,off,none⟩) (n+m) scap) (w.setRow b cs')/\cs'.size=cs.size/\
    ∀i,i<n+m->∀j v,((fun i=>if i<n then cfo i else cf (i-n)) i)[j]?=some v->cs'[i*ei.size+j]?=some v:=by
   by_cases hm0:m=0
   ·subst hm0
    refine⟨cs,?_,rfl,fun i hi j v hv=>?_⟩
    ·rw[setRow_self w b cs cty _ e1]
     have hf:(flat cf 0).toArray=#[]:=by simp[flat]
     have hcells:=hsrc.cells
     rw[hf]at hcells
     have hn:n<=scap:=k4
     simp[Builtin.append_,run_underlying hu,run_underlying (hd'▸(hT t' ti' ht').dR),sizeOf,typeInfo,hi,Builtin.lenOf,his,hcells,hn,storeCells]
    ·have hi':i<n:=aa
     simp only[if_pos hi']at hv
     exact(hold i hi').2.2 j v hv
   ·have hoff:off=0:=by rcases k5 with k5|k5<;>omega
    subst hoff
    have hfl:=mF (cf:=cf) (m:=m) (es:=ei.size) fun i hi=>(g4 i hi).1
    have hfit:n*ei.size+m*ei.size<=cs.size:=by
     rw[e2,hes,<-Nat.add_mul];exact Nat.mul_le_mul_right _ aa
    have hst:=run_storeCells_at P b (n*ei.size) cty (flat cf m) 0 cs w e1 (by rw[hfl];simpa using hfit) (zU fun i hi=>(g4 i hi).2)
    simp only[Nat.add_zero]at hst
    refine⟨splice cs (n*ei.size) (flat cf m),?_,xk (by rw[hfl];exact hfit),fun i hi j v hv=>?_⟩
    ·have hcells:=hsrc.cells
     simp[Builtin.append_,run_underlying hu,run_underlying (hd'▸(hT t' ti' ht').dR),sizeOf,typeInfo,hi,Builtin.lenOf,his,hcells,hroom,Addr.add_lit,hst,splice]
    ·rw[nr (by rw[hfl];exact hfit),hfl]
     have hlen:=(hnew i hi).1
     have hj:j<ei.size:=by rw[<-hlen];exact(List.getElem?_eq_some_iff.1 hv).1
     by_cases h':i<n
     ·simp only[if_pos h']at hv
      have:=Nat.mul_le_mul_right ei.size (show i+1<=n by omega)
      rw[Nat.add_mul,Nat.one_mul]at this
      rw[if_neg aa]
      exact(hold i h').2.2 j v hv
     ·simp only[if_neg h']at hv
      have h5:i*ei.size=n*ei.size+(i-n)*ei.size:=by rw[<-Nat.add_mul];congr 1;omega
      have h6:=Nat.mul_le_mul_right ei.size (show(i-n)+1<=m by omega)
      rw[Nat.add_mul,Nat.one_mul]at h6
      rw[if_pos aa]
      have h7:i*ei.size+j-n*ei.size=(i-n)*ei.size+j:=aa
      rw[h7,oV (fun i hi=>(g4 i hi).1) aa hj]
      exact hv
  obtain⟨cs',hrun,hsz,hcs'⟩:=hrun
  obtain⟨q1,q2⟩:=h.extend (D':=D') (K:=K) (o':=⟨true,true,ei.size,n+m,fun i=>if i<n then o.f i else g (i-n)⟩) hk hwr hK hD hDK k1 e1 hsz hes.symm rfl (by simp only;omega)
   (fun i hi=>⟨_,(hnew i hi).1,(hnew i hi).2,hcs' i hi⟩)
  refine⟨_,_,hrun,⟨β.set K (b,N.1,n+m),q1,q2,bF.bY (.cK ?_ rfl)⟩,fun base' scap he hle=>by cases he;exact⟨_,rfl⟩⟩
  exact aO.own (N:=(N.1,n+m)) (aV.gR _ _ _) ⟨by simp only;omega,by simp⟩ hroom (k5.imp id (by simp)) aa .nil
 ·-- a new row
  rw[<-his]at hsrc
  have hfold:(Builtin.firstCells i.size n (.slice (some ⟨b,off,none⟩) n scap)).run P w.drew=.ok (flat cfo n).toArray w.drew:=by
   refine sS (w:=w.drew) aa (fun i hi=>by rw[(hold i hi).1,his]) ?_ n
   by_cases hn:n=0
   ·exact .inl hn
   ·refine .inr ⟨b,off,rfl,fun i hi j v hv=>?_⟩
    have hoff:off=0:=by rcases k5 with k5|k5<;>omega
    rw[World.cell?_drew,uv e1,hoff,his,Nat.zero_add]
    exact(hold i hi).2.2 j v hv
  have hrun:=run_append_grow_src (P:=P) w t t' ty e i zz hu hi hz (some ⟨b,off,none⟩) n scap (flat cfo n) hfold (.slice base m cap) m (flat cf m) hsrc aa aa
   (growslice_fits aa (by rw[hib];omega))
  rw[FQ]at hrun
  have hcap:n+m<=grownCap w (n+m) scap e:=by simp[grownCap,Question.cut]
  generalize grownCap w (n+m) scap e=C at hrun hcap
  have f1:dH (aN c st β) w β (aN c st β) w.drew β:=dH.drew
  obtain⟨d1,d2⟩:=h.drew.drop k
  have f2:=f1.trans d2
  obtain⟨q1,q2⟩:=d1.vX (D':=D') (es:=ei.size) (f:=fun i=>if i<n then o.f i else g (i-n)) (cf:=fun i=>if i<n then cfo i else cf (i-n)) hK hD hDK aa hcap
   (fun i hi=>⟨(hnew i hi).1,(hnew i hi).2.pE f2⟩) (Z:=Builtin.zeroCells zz.cells (C-(n+m))) (by rw[uB,hzl]) (ty:=e)
  refine⟨_,_,hrun,⟨β.set K (w.heap.size,C,n+m),q1,f2.trans q2,bF.bY (.cK ?_ rfl)⟩,fun base' scap he hle=>by cases he;omega⟩
  exact aO.own (N:=(C,n+m)) (aV.gR _ _ _) ⟨by simp,by simp⟩ hcap (.inr (by simp)) aa .nil
include hT in
theorem Q5 (h:bB c st D β w) (hpre:∀k o,look k pre=some o->look k st=some o) (hD:∀k,D k->D' k) {t t' ty:TypeId} {ti ei:TI}
  (ht:look t T=some ti) {e:TypeId} (hd:ti.desc=.slice e) (he:look e T=some ei)
  {y:AV} {x:Value} (hy:bP (aN c st β) w β y x) {m:Nat} {g:Nat->AV} (hr:readAll pre ei.size y=some (m,g))
  {k s n:Nat} {o:ax} {sv:Value} (hs:bP (aN c st β) w β (.own k ei.size s n) sv) (hk:look k st=some o) (hrow:o.row=true) (hwr:o.wr=true) (hes:o.es=ei.size):
  ∃z w',(Builtin.copy_ #[t,t'] ty #[sv,x]).run P w=.ok z w'/\
   fM c st D' β w [(k,some {o with f:=fun i=>if s<=i/\i<s+min m n then g (i-s)else o.f i})] (.int .i64 (min m n:Nat)) z w':=by
 obtain⟨i,hi,his,hib⟩:=(hT e ei he).info
 have hu:=hd▸(hT t ti ht).dR
 rcases hs.own with hs|⟨rfl,rfl,rfl,k6⟩
 rotate_left
 ·obtain⟨base,cap,cf,rfl,g1,g2,g3,g4⟩:=qo h hpre k6 hy hr
  have hcells:=sS (P:=P) (cap:=cap) (cf:=cf) (m:=0) k6 (fun i hi=>absurd hi (Nat.not_lt_zero i)) (.inl rfl:(0:Nat)=0\/∃b o,base=some ⟨b,o,none⟩/\∀i,i<0->w.rangeAt b (o+i*ei.size) (cf i)) m
  have hf:(flat cf 0).toArray=#[]:=by simp[flat]
  rw[hf]at hcells
  have h0':m.min 0=0:=Nat.min_zero m
  have hrun:(Builtin.copy_ #[t,t'] ty #[.slice none 0 0,.slice base m cap]).run P w=.ok (goInt (min m 0:Nat)) w:=by
   rw[Nat.min_zero]
   simp[Builtin.copy_,run_underlying hu,Builtin.lenOf,sizeOf,typeInfo,hi,his,h0',hcells,storeCells]
  obtain⟨q1,q2⟩:=h.Fm (o':={o with f:=fun i=>if 0<=i/\i<0+min m 0 then g (i-0)else o.f i}) hk (by
   have:(fun i=>if 0<=i/\i<0+min m 0 then g (i-0)else o.f i)=o.f:=funext fun i=>if_neg aa
   rw[this])
  exact⟨_,_,hrun,β,q1.mA hD,q2,bF.bY (.cK (.int .nil) rfl)⟩
 obtain⟨b,off,scap,N,rfl,k1,k2,k3,k4,k5,k6⟩:=hs
 obtain⟨base,cap,cf,rfl,g1,g2,g3,g4⟩:=qo h hpre k6 hy hr
 obtain⟨cs,cty,cfo,e1,e2,e3,e4,e5,e6⟩:=h.elems hk hrow k1
 have hcells:=sS (P:=P) (cap:=cap) (cf:=cf) (m:=min m n) k6 (fun i hi=>(g4 i aa).1) (g1.elim (fun h=>.inl aa) fun⟨b,o,p,q⟩=>.inr ⟨b,o,p,fun i hi=>q i aa⟩) m
 have hfl:=mF (cf:=cf) (m:=min m n) (es:=ei.size) fun i hi=>(g4 i aa).1
 have hfit:s*ei.size+min m n*ei.size<=cs.size:=by
  rw[e2,hes,<-Nat.add_mul];exact Nat.mul_le_mul_right _ aa
 have hrun:∃cs',(Builtin.copy_ #[t,t'] ty #[.slice (some ⟨b,off,none⟩) n scap,.slice base m cap]).run P w=.ok (goInt (min m n:Nat)) (w.setRow b cs')/\cs'=splice cs (s*ei.size) (flat cf (min m n)):=by
  by_cases h0:min m n=0
  ·refine⟨cs,?_,?_⟩
   ·rw[setRow_self w b cs cty _ e1]
    rw[h0]at hcells
    have hf:(flat cf 0).toArray=#[]:=by simp[flat]
    rw[hf]at hcells
    have h0':m.min n=0:=h0
    simp[Builtin.copy_,run_underlying hu,Builtin.lenOf,sizeOf,typeInfo,hi,his,h0',hcells,storeCells]
   ·rw[h0];simp[flat,splice]
  ·have hoff:off=s*ei.size:=by rcases k5 with k5|k5<;>omega
   subst hoff
   have hst:=run_storeCells_at P b (s*ei.size) cty (flat cf (min m n)) 0 cs w e1 (by rw[hfl];simpa using hfit) (zU fun i hi=>(g4 i aa).2)
   simp only[Nat.add_zero]at hst
   refine⟨_,?_,rfl⟩
   have hmn:m.min n=min m n:=rfl
   simp[Builtin.copy_,run_underlying hu,Builtin.lenOf,sizeOf,typeInfo,hi,his,hmn,hcells,hst,splice]
 obtain⟨cs',hrun,rfl⟩:=hrun
 have hq:=h.write (o':={o with f:=fun i=>if s<=i/\i<s+min m n then g (i-s)else o.f i}) hk hwr k1 e1 (xk (by rw[hfl];exact hfit)) rfl hwr rfl (fun i hi=>?_)
 ·refine⟨_,_,hrun,β,hq.1.mA hD,hq.2,bF.bY (.cK (.int .nil) rfl)⟩
 ·have hi':i<o.len:=hi
  obtain⟨f1,f2,f3⟩:=e6 i hi'
  by_cases hin:s<=i/\i<s+min m n
  ·refine⟨cf (i-s),?_,?_,fun j v hv=>?_⟩
   ·rw[(g4 (i-s) aa).1];exact hes.symm
   ·simp only[hrow,if_true,if_pos hin]
    exact(g4 (i-s) aa).2
   ·have hj:j<ei.size:=by rw[<-(g4 (i-s) aa).1];exact(List.getElem?_eq_some_iff.1 hv).1
    have h5:i*ei.size=s*ei.size+(i-s)*ei.size:=by rw[<-Nat.add_mul];congr 1;omega
    have h6:=Nat.mul_le_mul_right ei.size (show(i-s)+1<=min m n by omega)
    rw[Nat.add_mul,Nat.one_mul]at h6
    simp only[hes]
    rw[nr (by rw[hfl];exact hfit),hfl,if_pos aa]
    have h7:i*ei.size+j-s*ei.size=(i-s)*ei.size+j:=aa
    rw[h7,oV (fun i hi=>(g4 i aa).1) aa hj]
    exact hv
  ·refine⟨cfo i,f1,?_,fun j v hv=>?_⟩
   ·simp only[hrow,if_true,if_neg hin];exact f2
   ·have hj:j<ei.size:=by rw[<-hes,<-f1];exact(List.getElem?_eq_some_iff.1 hv).1
    simp only[hes]
    rw[nr (by rw[hfl];exact hfit),hfl,if_neg ?_]
    ·have:=f3 j v hv
     rwa [hes]at this
    ·by_cases hlt:i<s
     ·have:=Nat.mul_le_mul_right ei.size (show i+1<=s by omega)
      rw[Nat.add_mul,Nat.one_mul]at this;omega
     ·have:=Nat.mul_le_mul_right ei.size (show s+min m n<=i by omega)
      rw[Nat.add_mul]at this;omega
theorem GL (z:Array Value):∀n,(Builtin.zeroCells z n).toList=flat (fun _=>z.toList) n:=by
 intro n
 apply List.ext_getElem?
 intro i
 have hlen:=mF (cf:=fun _=>z.toList) (es:=z.size) (m:=n) fun _ _=>by simp
 by_cases hi:i<n*z.size
 ·have hz:0<z.size:=by
   rcases Nat.eq_zero_or_pos z.size with h|h
   ·rw[h]at hi;omega
   ·exact h
  have h1:=Nat.div_lt_of_lt_mul (show i<z.size*n by rw[Nat.mul_comm];exact hi)
  have h2:=oV (cf:=fun _=>z.toList) (es:=z.size) (m:=n) (fun _ _=>by simp) h1 (Nat.mod_lt i hz)
  rw[show i/z.size*z.size+i%z.size=i by rw[Nat.mul_comm];exact Nat.div_add_mod i z.size]at h2
  rw[h2]
  have h3:=Nat.mod_lt i hz
  simp[Builtin.zeroCells,List.getElem?_range hi,h3,getElem!_pos]
 ·rw[List.getElem?_eq_none (by simp[Builtin.zeroCells];omega),List.getElem?_eq_none aa]
include hT in
theorem U0 (h:bB c st D β w) (hD:∀k,D k->D' k) {t ty:TypeId} {ti ei:TI}
  (ht:look t T=some ti) {e:TypeId} (hd:ti.desc=.slice e) (he:look e T=some ei) (h2:ei.zero.size=ei.size) (h3:ei.zero.isTuple=false)
  {k s n:Nat} {o:ax} {sv:Value} (hs:bP (aN c st β) w β (.own k ei.size s n) sv) (hk:look k st=some o) (hrow:o.row=true) (hwr:o.wr=true) (hes:o.es=ei.size):
  ∃z w',(Builtin.clear_ #[t] ty #[sv]).run P w=.ok z w'/\
   fM c st D' β w [(k,some {o with f:=fun i=>if s<=i/\i<s+n then ei.zero else o.f i})] (.tuple []) z w':=by
 obtain⟨i,zz,hi,hz,hrep⟩:=(hT e ei he).zero h3
 have hu:=hd▸(hT t ti ht).dR
 rcases hs.own with hs|⟨rfl,rfl,rfl,k6⟩
 rotate_left
 ·have hrun:(Builtin.clear_ #[t] ty #[.slice none 0 0]).run P w=.ok (.tuple #[]) w:=by simp[Builtin.clear_,run_underlying hu]
  obtain⟨q1,q2⟩:=h.Fm (o':={o with f:=fun i=>if 0<=i/\i<0+0 then ei.zero else o.f i}) hk (by
   have:(fun i=>if 0<=i/\i<0+0 then ei.zero else o.f i)=o.f:=funext fun i=>if_neg aa
   rw[this])
  exact⟨_,_,hrun,β,q1.mA hD,q2,[],rfl,trivial⟩
 obtain⟨b,off,scap,N,rfl,k1,k2,k3,k4,k5,k6⟩:=hs
 have hzl:zz.cells.size=ei.size:=by rw[<-Array.length_toList,(hrep (aN c st β) w β).cells.length];simp[sizes,h2]
 obtain⟨cs,cty,cfo,e1,e2,e3,e4,e5,e6⟩:=h.elems hk hrow k1
 have hfl:=mF (cf:=fun _=>zz.cells.toList) (m:=n) (es:=ei.size) fun i hi=>by simpa using hzl
 have hzc:=(hrep (aN c st β) w bE).cells
 have hfit:s*ei.size+n*ei.size<=cs.size:=by
  rw[e2,hes,<-Nat.add_mul];exact Nat.mul_le_mul_right _ aa
 have hrun:∃cs',(Builtin.clear_ #[t] ty #[.slice (some ⟨b,off,none⟩) n scap]).run P w=.ok (.tuple #[]) (w.setRow b cs')/\cs'=splice cs (s*ei.size) (flat (fun _=>zz.cells.toList) n):=by
  by_cases h0:n=0
  ·subst h0
   refine⟨cs,?_,?_⟩
   ·rw[setRow_self w b cs cty _ e1]
    simp[Builtin.clear_,run_underlying hu]
   ·simp[flat,splice]
  ·have hoff:off=s*ei.size:=by rcases k5 with k5|k5<;>omega
   subst hoff
   have hst:=run_storeCells_at P b (s*ei.size) cty (flat (fun _=>zz.cells.toList) n) 0 cs w e1 (by rw[hfl];simpa using hfit) (zU (g:=fun _=>ei.zero) fun i hi=>(hrep (aN c st β) w β).cells)
   simp only[Nat.add_zero]at hst
   refine⟨_,?_,rfl⟩
   obtain⟨n',rfl⟩:∃n',n=n'+1:=⟨n-1,aa⟩
   simp[Builtin.clear_,run_underlying hu,zeroValue,typeInfo,hi,hz,GL,hst,splice]
 obtain⟨cs',hrun,rfl⟩:=hrun
 have hq:=h.write (o':={o with f:=fun i=>if s<=i/\i<s+n then ei.zero else o.f i}) hk hwr k1 e1 (xk (by rw[hfl];exact hfit)) rfl hwr rfl (fun i hi=>?_)
 ·exact⟨_,_,hrun,β,hq.1.mA hD,hq.2,[],rfl,trivial⟩
 ·have hi':i<o.len:=hi
  obtain⟨f1,f2,f3⟩:=e6 i hi'
  by_cases hin:s<=i/\i<s+n
  ·refine⟨zz.cells.toList,?_,?_,fun j v hv=>?_⟩
   ·simp only[Array.length_toList,hzl];exact hes.symm
   ·simp only[hrow,if_true,if_pos hin]
    exact hzc
   ·have hj:j<ei.size:=by rw[<-hzl,<-Array.length_toList];exact(List.getElem?_eq_some_iff.1 hv).1
    have h5:i*ei.size=s*ei.size+(i-s)*ei.size:=by rw[<-Nat.add_mul];congr 1;omega
    have h6:=Nat.mul_le_mul_right ei.size (show(i-s)+1<=n by omega)
    rw[Nat.add_mul,Nat.one_mul]at h6
    simp only[hes]
    rw[nr (by rw[hfl];exact hfit),hfl,if_pos aa]
    have h7:i*ei.size+j-s*ei.size=(i-s)*ei.size+j:=aa
    rw[h7,oV (fun i hi=>by simpa using hzl) aa hj]
    exact hv
  ·refine⟨cfo i,f1,?_,fun j v hv=>?_⟩
   ·simp only[hrow,if_true,if_neg hin];exact f2
   ·have hj:j<ei.size:=by rw[<-hes,<-f1];exact(List.getElem?_eq_some_iff.1 hv).1
    simp only[hes]
    rw[nr (by rw[hfl];exact hfit),hfl,if_neg ?_]
    ·have:=f3 j v hv
     rwa [hes]at this
    ·by_cases hlt:i<s
     ·have:=Nat.mul_le_mul_right ei.size (show i+1<=s by omega)
      rw[Nat.add_mul,Nat.one_mul]at this;omega
     ·have:=Nat.mul_le_mul_right ei.size (show s+n<=i by omega)
      rw[Nat.add_mul]at this;omega
theorem NK {M:Nat->Prop} {w:World} {β:aV} {f:Nat->AV} {cf:Nat->List Value}:∀{m:Nat},(∀i,i<m->aO M w β [f i] (cf i))->aO M w β ((List.range m).map f) (flat cf m)
 |0,_=>by simpa [flat]using aO.nil
 |m+1,h=>by
  rw[List.range_succ,List.map_append,sw]
  exact(NK fun i hi=>h i aa).append (h m aa)
theorem aag {M:Nat->Prop} {w:World} {b o es m:Nat} {cf:Nat->List Value} (hm:m≠0) (hes:0<es) (hl:∀i,i<m->(cf i).length=es) (h:∀i,i<m->iz M w b (o+i*es) (cf i)):iz M w b o (flat cf m):=by
 obtain⟨c,ty,fr,h1,h2,_⟩:=h 0 aa
 refine⟨c,ty,fr,h1,h2,fun i v hv=>?_⟩
 have hlt:=(List.getElem?_eq_some_iff.1 hv).1
 rw[mF hl]at hlt
 have hq:=Nat.div_lt_of_lt_mul (show i<es*m by rw[Nat.mul_comm];exact hlt)
 have hr:=Nat.mod_lt i hes
 have he:i/es*es+i%es=i:=by rw[Nat.mul_comm];exact Nat.div_add_mod i es
 have hg:=oV hl hq hr
 rw[he,hv]at hg
 obtain⟨c',ty',fr',g1,_,g3⟩:=h (i/es) hq
 rw[h1]at g1
 simp only[ay,Obj.cells.injEq]at g1
 obtain⟨rfl,_,_⟩:=g1
 have:=g3 (i%es) v hg.symm
 rwa [show o+i/es*es+i%es=o+i by omega]at this
include hT in
theorem WM (h:bB c st D β w) (hD:∀k,D k->D' k) {t:TypeId} {ti:TI} (ht:look t T=some ti) {m e:Nat} (hd:ti.desc=.array m e) {es n:Nat} {f:Nat->AV} {xv:Value}
  (hx:bP (aN c st β) w β (.ak es n f) xv) (hm:m≠0) (hmn:m<=n):
  ∃z,(Instr.arrayAt t xv).run P w=.ok z w/\fM c st D' β w [] (.b9 (.agg ((List.range m).map f))) z w:=by
 obtain⟨base,cap,cf,rfl,g1,g2,g3,g4,g5⟩:=hx.ak
 have hu:=hd▸(hT t ti ht).dR
 rcases g1 with g1|⟨b,o,rfl,g1⟩
 ·omega
 refine⟨.pointer (some ⟨b,o,none⟩),?_,eM h hD (bF.bY (.cK (.b9 (aO.agg (NK fun i hi=>g5 i aa) .nil) ?_ .nil) rfl))⟩
 ·have:¬n<m:=aa
  simp[Instr.arrayAt,run_underlying hu,this]
 ·rw[List.append_nil]
  exact aag hm g2 (fun i hi=>g4 i aa) fun i hi=>g1 i aa
end ops
section make
variable {P:Program} (w:World)
theorem Qk (t tx ty e:TypeId) (i:TypeInfo) (z:Value) (ht:P.underlying t=some (.slice e)) (hk:P.underlying tx=some (.int .i64)) (hi:P.info? e=some i) (hz:i.zero=some z) (n:Nat) (h0:0<n) (hs:0<i.size)
  (h63:(n:Int)<9223372036854775808) (hb:n*i.bytes<=281474976710656) (hfit:Builtin.nextslicecap n 0*i.bytes<=281474976710656):
  (Builtin.append_ #[t,tx] ty #[.slice none 0 0,.int .i64 n]).run P w=
   .ok (.slice (some ⟨w.heap.size,0,none⟩) n (grownCap w n 0 e)) (w.drew.alloc (.cells (Builtin.zeroCells z.cells n++Builtin.zeroCells z.cells (grownCap w n 0 e-n)) e)):=by
 have hw:IntKind.i64.wrap (n:Int)=n:=by rw[IntKind.wrap_i64];omega
 have hn:¬n=0:=aa
 have hns:¬n*i.size=0:=by
  intro h;rcases Nat.mul_eq_zero.1 h with h|h<;>omega
 have h63':¬(9223372036854775807<(n:Int)):=aa
 have hb':¬(281474976710656<(n:Int)*(i.bytes:Int)):=by
  rw[<-Int.natCast_mul]
  omega
 have h48':¬(281474976710656<Builtin.nextslicecap n 0*i.bytes):=aa
 have hneg:¬((n:Int)<0):=aa
 have hf:(Builtin.firstCells i.size 0 (.slice none 0 0)).run P w.drew=.ok #[] w.drew:=by simp[Builtin.firstCells]
 set_option maxRecDepth 100000 in
 simp[Builtin.append_,run_underlying ht,run_underlying hk,sizeOf,typeInfo,zeroValue,hi,hz,asInt,asIntOf,hw,hn,hneg,h63',hb',h48',hns,Question.forced,hf,newRow,grownCap]
variable {T:Types} (hT:eE P T) {c:Ctx} {st pre:aE} {D D':Nat->Prop} {β:aV}
include hT in
theorem V7 (h:bB c st D β w) (hD:∀k,D k->D' k) {K:Nat} (hK:¬D K) (hDK:D' K) {t t' ty:TypeId} {ti ti' ei:TI}
  (ht:look t T=some ti) (ht':look t' T=some ti') {e:TypeId} (hd:ti.desc=.slice e) (hd':ti'.desc=.int .i64) (he:look e T=some ei) (h1:ei.size≠0) (h2:ei.zero.size=ei.size)
  (h3:ei.zero.isTuple=false) {n:Int} (n0:0<n) (n1:n.toNat*(ei.bytes+1)*2<=2^47):
  ∃z w',(Builtin.append_ #[t,t'] ty #[.slice none 0 0,.int .i64 n]).run P w=.ok z w'/\fM c st D' β w [(K,some ⟨true,true,ei.size,n.toNat,fun _=>ei.zero⟩)] (.own K ei.size 0 n.toNat) z w':=by
 obtain⟨i,zz,hi,hz,hrep⟩:=(hT e ei he).zero h3
 obtain⟨i',hi',his,hib⟩:=(hT e ei he).info
 rw[hi]at hi'
 simp only[ay]at hi'
 subst hi'
 have hzl:zz.cells.size=ei.size:=by rw[<-Array.length_toList,(hrep (aN c st β) w β).cells.length];simp[sizes,h2]
 obtain⟨m,rfl⟩:∃m:Nat,n=(m:Int):=⟨n.toNat,aa⟩
 simp only[bG]at*
 have hmb:m*ei.bytes<=2^47:=Nat.le_trans (by rw[Nat.mul_assoc];exact Nat.mul_le_mul_left m aa) n1
 have hm2:m*2<=2^47:=Nat.le_trans (by rw[Nat.mul_assoc];exact Nat.mul_le_mul_left m aa) n1
 have hrun:=Qk (P:=P) w t t' ty e i zz (hd▸(hT t ti ht).dR) (hd'▸(hT t' ti' ht').dR) hi hz m aa aa aa (by rw[hib];omega) (growslice_fits aa (by rw[hib];omega))
 have hcap:m<=grownCap w m 0 e:=by simp[grownCap,Question.cut]
 generalize grownCap w m 0 e=C at hrun hcap
 refine⟨_,_,hrun,β.set K (w.heap.size,C,m),?_⟩
 have e1:dH (aN c st β) w β (aN c st β) w.drew β:=dH.drew
 have ez:Builtin.zeroCells zz.cells m=(flat (fun _=>zz.cells.toList) m).toArray:=by
  apply Array.ext';rw[GL]
 rw[ez]
 obtain⟨q1,q2⟩:=h.drew.vX (D':=D') (es:=ei.size) (f:=fun _=>ei.zero) (cf:=fun _=>zz.cells.toList) hK hD hDK aa hcap (fun i hi=>⟨by rw[Array.length_toList,hzl],(hrep _ _ _).cells⟩) (Z:=Builtin.zeroCells zz.cells (C-m)) (by rw[uB,hzl]) (ty:=e)
 refine⟨q1,e1.trans q2,bF.bY (.cK ?_ rfl)⟩
 exact aO.own (N:=(C,m)) (aV.gR _ _ _) ⟨by simp,by simp⟩ hcap (.inr (by simp)) aa .nil
end make
end Go.Am
namespace Go.Am
open AV
def dA:List (Nat×Option ax)->Nat->Option (Option ax)
 |[],_=>none
 |(j,o)::l,k=>match dA l k with
  |some r=>some r
  |none=>if j==k then some o else none
theorem kK:∀(cH:List (Nat×Option ax)) (st:aE) (k:Nat),look k (de cH st)=match dA cH k with
  |some r=>r
  |none=>look k st
 |[],st,k=>rfl
 |(j,some o)::l,st,k=>by
  simp only[de,kK l,dA]
  cases dA l k with
  |some r=>rfl
  |none=>
   by_cases h:j=k
   ·subst h;simp[jr]
   ·have:k≠j:=fun e=>h e.symm
    simp[h,gD this]
 |(j,none)::l,st,k=>by
  simp only[de,kK l,dA]
  cases dA l k with
  |some r=>rfl
  |none=>
   by_cases h:j=k
   ·subst h;simp[Be]
   ·have:k≠j:=fun e=>h e.symm
    simp[h,Be,this]
def s5 (P:Program) (f:FuncId) (vs:List Value) (w:World) (R:Value->World->Prop):Prop:=
 (∃fn,P.funcs[f]?=some fn/\(fn.name== "runtime.NumGoroutine")=false/\fn.body.isNone=false/\Calls P f vs.toArray w fun e w'=>∃x,e=.returned x/\R x w')\/
 (∃x,(callFunc f vs.toArray).run P w=.ok (.value x) w/\R x w)
theorem s5.mono {P:Program} {f:FuncId} {vs:List Value} {w:World} {R R':Value->World->Prop} (h:s5 P f vs w R) (hr:∀x w',R x w'->R' x w'):s5 P f vs w R':=by
 rcases h with⟨fn,h1,h2,h3,h4⟩|⟨x,h1,h2⟩
 ·exact .inl ⟨fn,h1,h2,h3,h4.mono fun e w' ⟨x,he,hx⟩=>⟨x,he,hr _ _ hx⟩⟩
 ·exact .inr ⟨x,h1,hr _ _ h2⟩
theorem s5.Ea {P:Program} {f:FuncId} {vs:List Value} {w:World} {R:Value->World->Prop} (h:s5 P f vs w R):mb P (callFunc f vs.toArray) w R:=by
 rcases h with⟨fn,h1,h2,h3,h4⟩|⟨x,h1,h2⟩
 ·refine .inr (.inr ⟨f,vs.toArray,?_,h4⟩)
  simp only[callFunc,Sem.run_bind,run_program,Result.andThen_ok,h1,h2,h3,Bool.false_eq_true,if_false,Sem.run_pure]
 ·exact .inl ⟨x,w,h1,h2⟩
def aS (P:Program) (f:FuncId) (K:Nat) (args:List AV) (pre:aE) (r:dZ):Prop:=
 r.need->(∀k o,look k r.post=some o->(∃o',look k pre=some o')\/(K<=k/\k<K+dw))/\
  ∀(c:Ctx) (D D':Nat->Prop) (β:aV) (w:World) (vs:List Value),c.w0=w->(∀b,c.Mw b->aN c pre β b)->bB c pre D β w->(∀k,D k->D' k)->(∀k,K<=k->k<K+dw->¬D k/\D' k)->
   cS (aN c pre β) w β args vs->s5 P f vs w (fM c pre D' β w (gA r.post) r.res)
theorem AR {pre:aE} {k:Nat} {o:ax}:∀{post:aE},look k (de (gA post) pre)=some o->look k (de (jV post) pre)=some o:=by
 have key:∀post:aE,dA (gA post) k=dA (jV post) k\/dA (gA post) k=some none:=by
  intro post
  induction post with
  |nil=>exact .inl rfl
  |cons p post ih=>
   obtain⟨j,a⟩:=p
   show dA ((j,_)::gA post) k=dA ((j,some a)::jV post) k\/dA ((j,_)::gA post) k=some none
   simp only[dA]
   rcases ih with ih|ih
   ·rw[ih]
    cases h1:dA (jV post) k with
    |some r=>exact .inl rfl
    |none=>
     by_cases hjk:j=k
     ·simp only[hjk,BEq.rfl,if_true]
      cases a.es with
      |zero=>exact .inr rfl
      |succ n=>exact .inl rfl
     ·simp[hjk]
   ·rw[ih];exact .inr rfl
 intro post h
 rw[kK]at h ⊢
 rcases key post with h1|h1
 ·rw[<-h1];exact h
 ·rw[h1]at h;simp at h
theorem acu {post:aE} {k:Nat} {r:Option ax} (h:dA (gA post) k=some r):∃o,look k post=some o:=by
 induction post with
 |nil=>simp[gA,dA]at h
 |cons p post ih=>
  obtain⟨j,o⟩:=p
  simp only[gA,List.map_cons,dA]at h
  by_cases hjk:j=k
  ·exact⟨o,by simp[look,hjk]⟩
  ·cases he:dA (gA post) k with
   |some r'=>
    obtain⟨o',ho'⟩:=ih (by
     simp only[gA]at he
     rw[he]at h
     simp only[ay]at h
     rw[<-h];exact he)
    exact⟨o',by simp[look,hjk,ho']⟩
   |none=>
    simp only[gA]at he
    rw[he]at h
    simp[hjk]at h
def EB (pre:aE) (β:aV):Nat->Prop:=fun b=>∃k o,∃N:Nat×Nat,look k pre=some o/\o.wr=true/\β k=some (b,N)
def Ctx.inner (c:Ctx) (st pre:aE) (β:aV) (w:World):Ctx:=⟨fun b=>aN c st β b/\¬EB pre β b,w,EB pre β,β,none⟩
section frame
variable {c:Ctx} {st pre:aE} {D D':Nat->Prop} {β:aV} {w:World}
theorem Et (hpre:∀k o,look k pre=some o->look k st=some o):aN (c.inner st pre β w) pre β=aN c st β:=by
 funext b
 apply propext
 constructor
 ·rintro(h|⟨k,o,N,h1,h2,h3⟩)
  ·exact h.1
  ·exact .inr ⟨k,o,N,hpre k o h1,h2,h3⟩
 ·intro h
  by_cases hp:EB pre β b
  ·exact .inr hp
  ·exact .inl ⟨h,hp⟩
def vq (pre:aE) (β:aV) (k:Nat):Prop:=β k≠none\/look k pre≠none
theorem Kr (h:bB c st D β w) (hpre:∀k o,look k pre=some o->look k st=some o) {k:Nat} (hk:vq pre β k):D k:=by
 cases hb:β k with
 |some x=>exact h.dom k x hb
 |none=>
  rcases hk with hk|hk
  ·exact absurd hb hk
  ·cases hl:look k pre with
   |none=>exact absurd hl hk
   |some o=>exact(h.eG k o (hpre k o hl) hb).2
theorem bB.inner (h:bB c st D β w) (hpre:∀k o,look k pre=some o->look k st=some o):bB (c.inner st pre β w) pre (vq pre β) β w where
 obj k o hk x hx:=by rw[Et hpre];exact h.obj k o (hpre k o hk) x hx
 eG k o hk hb:=⟨(h.eG k o (hpre k o hk) hb).1,.inr (by rw[hk];simp)⟩
 inj k k' o o' b N N' h1 h2:=h.inj k k' o o' b N N' (hpre _ _ h1) (hpre _ _ h2)
 dom k x hk:=.inl (by rw[hk];simp)
 keep _ _ h:=h
 lt:=h.lt
 os:=rfl
 tape:=rfl
 output:=rfl
 size:=aT
 block _ _ _:=rfl
 ig b hb:=by
  refine⟨?_,hb.2⟩
  rcases hb.1 with h1|⟨k,o,N,_,_,h3⟩
  ·exact Nat.lt_of_lt_of_le (h.ig b h1).1 h.size
  ·exact h.lt k b N h3
 new k o b N h1 h2 h3:=.inr ⟨k,o,N,h1,h2,h3⟩
theorem fM.outer (h:bB c st D β w) (hpre:∀k o,look k pre=some o->look k st=some o) (hD:∀k,D k->D' k) {K:Nat} (hK:∀k,K<=k->k<K+dw->¬D k/\D' k) {cH:List (Nat×Option ax)}
  (heff:∀k r,dA cH k=some r->(∃o',look k pre=some o')\/(K<=k/\k<K+dw)) {v:AV} {x:Value} {w':World} (hr:fM (c.inner st pre β w) pre (fun k=>vq pre β k\/(K<=k/\k<K+dw)) β w cH v x w'):fM c st D' β w cH v x w':=by
 obtain⟨β',g,e,hv⟩:=hr
 have hDD:∀k,(vq pre β k\/(K<=k/\k<K+dw))->D' k:=fun k hk=>hk.elim (fun hk=>hD k (Kr h hpre hk)) fun hk=>(hK k hk.1 hk.2).2
 have hout:∀k,D k->β k=none->look k pre=none->β' k=none:=fun k hk hb hp=>by
  cases hb':β' k with
  |none=>rfl
  |some x=>
   rcases g.dom k x hb' with(h1|h1)|h1
   ·exact absurd hb h1
   ·exact absurd hp h1
   ·exact absurd hk (hK k h1.1 h1.2).1
 -- inside or outside
 have hcase:∀k,(look k (de cH pre)=look k (de cH st))\/(dA cH k=none/\look k pre=none/\look k (de cH st)=look k st):=fun k=>by
  simp only[kK]
  cases he:dA cH k with
  |some r=>exact .inl rfl
  |none=>
   cases hp:look k pre with
   |some o=>exact .inl (hpre k o hp).symm
   |none=>exact .inr ⟨rfl,rfl,rfl⟩
 have hrest:∀k o b N,look k st=some o->look k pre=none->o.wr=true->β k=some (b,N)->(c.inner st pre β w).Mf b:=fun k o b N h1 h2 h3 h4=>by
  refine⟨.inr ⟨k,o,N,h1,h3,h4⟩,fun⟨k2,o2,N2,p1,p2,p3⟩=>?_⟩
  have:=h.inj k k2 o o2 b N N2 h1 (hpre _ _ p1) h3 h4 p3
  subst this
  rw[h2]at p1;simp at p1
 have hβ:∀k o b N,look k st=some o->look k pre=none->β' k=some (b,N)->β k=some (b,N):=fun k o b N h1 hp h2=>by
  cases hb:β k with
  |none=>rw[hout k (h.eG k o h1 hb).2 hb hp]at h2;simp at h2
  |some y=>
   have:=e.keys k _ hb
   rw[h2]at this
   exact this.symm
 have hM:aN (c.inner st pre β w) (de cH pre) β'=aN c (de cH st) β':=by
  funext b
  apply propext
  constructor
  ·rintro(⟨h1,h2⟩|⟨k,o,N,h1,h2,h3⟩)
   ·rcases h1 with h1|⟨k,o,N,k1,k2,k3⟩
    ·exact .inl h1
    ·have hkp:look k pre=none:=by
      cases hp:look k pre with
      |none=>rfl
      |some o'=>
       have:=hpre k o' hp
       rw[k1]at this
       simp only[ay]at this
       subst this
       exact absurd ⟨k,o,N,hp,k2,k3⟩ h2
     have hek:dA cH k=none:=by
      cases he:dA cH k with
      |none=>rfl
      |some r=>
       rcases heff k r he with⟨o',ho'⟩|hk
       ·rw[hkp]at ho';simp at ho'
       ·exact absurd (h.dom k _ k3) (hK k hk.1 hk.2).1
     exact .inr ⟨k,o,N,by rw[kK,hek];exact k1,k2,e.keys _ _ k3⟩
   ·rcases hcase k with hc|⟨_,hc,hc2⟩
    ·exact .inr ⟨k,o,N,by rw[<-hc];exact h1,h2,h3⟩
    ·rw[kK]at h1
     cases he:dA cH k with
     |some r=>rw[kK,he]at hc2;rw[he]at h1;exact .inr ⟨k,o,N,by rw[kK,he];exact h1,h2,h3⟩
     |none=>rw[he,hc]at h1;simp at h1
  ·rintro(h1|⟨k,o,N,h1,h2,h3⟩)
   ·exact .inl ⟨.inl h1,fun⟨k,o,N,p1,p2,p3⟩=>h.A5 (hpre _ _ p1) p2 p3 h1⟩
   ·rcases hcase k with hc|⟨_,hc,hc2⟩
    ·exact .inr ⟨k,o,N,by rw[hc];exact h1,h2,h3⟩
    ·rw[hc2]at h1
     exact .inl (hrest k o b N h1 hc h2 (hβ k o b N h1 hc h3))
 have e':dH (aN c st β) w β (aN c (de cH st) β') w' β':=by
  rw[<-hM,<-Et (c:=c) (w:=w) hpre];exact e
 have hsame:∀k o b N,look k st=some o->look k pre=none->β k=some (b,N)->w'.heap[b]?=w.heap[b]?:=fun k o b N h1 h2 h3=>by
  refine g.block b (h.lt k b N h3) fun⟨k2,o2,N2,p1,p2,p3⟩=>?_
  have hp:=hpre _ _ p1
  have:=h.inj k2 k o2 o b N2 N hp h1 p2 p3 h3
  subst this
  rw[h2]at p1;simp at p1
 refine⟨β',?_,e',?_⟩
 ·refine {obj:=?_,eG:=fun k o hk hb=>?_,inj:=?_,dom:=fun k x hk=>hDD k (g.dom k x hk),keep:=fun k x hk=>e'.keys _ _ (h.keep k x hk),lt:=g.lt,os:=g.os.trans h.os,tape:=g.tape.trans h.tape,output:=g.output.trans h.output,size:=Nat.le_trans h.size g.size,block:=?_,ig:=h.ig,new:=?_}
  ·intro k o hk x hx
   rcases hcase k with hc|⟨_,hc,hc2⟩
   ·rw[<-hM];exact g.obj k o (by rw[hc];exact hk) x hx
   ·rw[hc2]at hk
    refine(h.obj k o hk x (hβ k o x.1 x.2 hk hc hx)).iT e' (fun b N cs ty hb hx=>by rw[hsame k o b N hk hc hb];exact hx) (fun b N hb hw=>?_)
    rw[<-hM];exact .inl (hrest k o b N hk hc hw hb)
  ·rcases hcase k with hc|⟨_,hc,hc2⟩
   ·have:=g.eG k o (by rw[hc];exact hk) hb
    exact⟨this.1,hDD k this.2⟩
   ·rw[hc2]at hk
    cases hb2:β k with
    |none=>exact⟨(h.eG k o hk hb2).1,hD k (h.eG k o hk hb2).2⟩
    |some y=>rw[e.keys k y hb2]at hb;simp at hb
  ·intro k k' o o' b N N' h1 h2 hw hb hb'
   rcases hcase k with hc|⟨_,hc,hc2⟩
   ·rcases hcase k' with hc'|⟨_,hc',hc2'⟩
    ·exact g.inj k k' o o' b N N' (by rw[hc];exact h1) (by rw[hc'];exact h2) hw hb hb'
    ·rw[hc2']at h2
     have hk1:look k (de cH pre)=some o:=by rw[hc];exact h1
     have hbb:=hβ k' o' b N' h2 hc' hb'
     by_cases hw':o'.wr=true
     ·exact absurd (hrest k' o' b N' h2 hc' hw' hbb) (g.A5 hk1 hw hb)
     ·obtain⟨b1,N1,cs,ty,a1,a2,a3,a4,a5,a6,a7,_⟩:=h.obj k' o' h2 _ hbb
      rw[hbb]at a1
      simp only[ay,Prod.mk.injEq]at a1
      obtain⟨rfl,rfl⟩:=a1
      have:=(e'.heap b _ (a7 (by simpa using hw')) a2).2
      exact absurd (.inr ⟨k,o,N,h1,hw,hb⟩) this
   ·rw[hc2]at h1
    have hbk:=hβ k o b N h1 hc hb
    have hmf:=hrest k o b N h1 hc hw hbk
    rcases hcase k' with hc'|⟨_,hc',hc2'⟩
    ·have hk2:look k' (de cH pre)=some o':=by rw[hc'];exact h2
     by_cases hw':o'.wr=true
     ·exact absurd hmf (g.A5 hk2 hw' hb')
     ·obtain⟨b1,N1,cs,ty,a1,a2,a3,a4,a5,a6,a7,_⟩:=g.obj k' o' hk2 _ hb'
      rw[hb']at a1
      simp only[ay,Prod.mk.injEq]at a1
      obtain⟨rfl,rfl⟩:=a1
      exact absurd (.inl hmf) (a7 (by simpa using hw'))
    ·rw[hc2']at h2
     exact h.inj k k' o o' b N N' h1 h2 hw hbk (hβ k' o' b N' h2 hc' hb')
  ·intro b hb hm
   rw[<-h.block b hb hm]
   refine g.block b (Nat.lt_of_lt_of_le hb h.size) fun⟨k2,o2,N2,p1,p2,p3⟩=>?_
   rcases h.new k2 o2 b N2 (hpre _ _ p1) p2 p3 with h1|h1
   ·omega
   ·exact hm h1
  ·intro k o b N hk hw hb
   rcases hcase k with hc|⟨_,hc,hc2⟩
   ·rcases g.new k o b N (by rw[hc];exact hk) hw hb with h1|⟨k2,o2,N2,p1,p2,p3⟩
    ·left
     have h2:w.heap.size<=b:=h1
     have:=h.size;omega
    ·exact h.new k2 o2 b N2 (hpre _ _ p1) p2 p3
   ·rw[hc2]at hk
    exact h.new k o b N hk hw (hβ k o b N hk hc hb)
 ·rw[<-hM];exact hv
theorem aS.use {P:Program} {f:FuncId} {K:Nat} {args:List AV} {r:dZ} (hf:aS P f K args pre r) (need:r.need) (h:bB c st D β w) (hpre:∀k o,look k pre=some o->look k st=some o)
  (hD:∀k,D k->D' k) (hK:∀k,K<=k->k<K+dw->¬D k/\D' k) {vs:List Value} (hv:cS (aN c st β) w β args vs):s5 P f vs w (fM c st D' β w (gA r.post) r.res):=by
 obtain⟨hpost,hf⟩:=hf need
 refine(hf (c.inner st pre β w) (vq pre β) (fun k=>vq pre β k\/(K<=k/\k<K+dw)) β w vs rfl (fun b hb=>.inr hb) (h.inner hpre) (fun _ h=>.inl h) (fun k h1 h2=>⟨fun h3=>(hK k h1 h2).1 (Kr h hpre h3),.inr ⟨h1,h2⟩⟩) (by rw[Et hpre];exact hv)).mono fun x w' hx=>?_
 refine hx.outer h hpre hD hK (fun k r hr=>?_)
 obtain⟨o,ho⟩:=acu hr
 exact hpost k o ho
theorem aS.frame {P:Program} {f:FuncId} {K:Nat} {args:List AV} {r:dZ} {pre':aE} (hf:aS P f K args pre r) (hp:∀k o,look k pre=some o->look k pre'=some o):aS P f K args pre' r:=by
 intro need
 refine⟨fun k o ho=>?_,fun c D D' β w vs _ _ h hD hK hv=>hf.use need h hp hD hK hv⟩
 rcases(hf need).1 k o ho with⟨o',h1⟩|h1
 ·exact .inl ⟨o',hp k o' h1⟩
 ·exact .inr h1
end frame
end Go.Am
namespace Go.Am
open AV
def bU (P:Program) (Γ:bz):Prop:=∀f s,look f Γ=some s->∀K args pre r,s K args pre=some r->aS P f K args pre r
section ops
variable {P:Program} {T:Types} (hT:eE P T) {Γ:bz} (hΓ:bU P Γ)
variable {c:Ctx} {st pre:aE} {D D':Nat->Prop} {β:aV} {w:World}
theorem nU {M:Nat->Prop} {ρ:Operand->Option AV} {ev:Operand->Value} (hρ:∀x v,ρ x=some v->bP M w β v (ev x)):
  ∀{l:List Operand} {vs:List AV},fD ρ l=some vs->cS M w β vs (l.map ev)
 |[],vs,h=>by simp only[fD,ay]at h;subst h;exact trivial
 |x::l,vs,h=>by
  simp only[fD]at h
  cases hx:ρ x with
  |none=>grind
  |some a=>
   cases hl:fD ρ l with
   |none=>grind
   |some m=>
    rw[hx,hl]at h
    simp only at h
    split at h
    ·grind
    ·simp at h
     subst h
     exact⟨(hρ x a hx).one (by grind),nU hρ hl⟩
theorem cS.append {M:Nat->Prop}:∀{l m:List AV} {xs ys:List Value},cS M w β l xs->cS M w β m ys->cS M w β (l++m) (xs++ys)
 |[],_,[],_,_,h=>h
 |_::_,_,_::_,_,h,h'=>⟨h.1,cS.append h.2 h'⟩
 |[],_,_::_,_,h,_=>h.elim
 |_::_,_,[],_,h,_=>h.elim
theorem KN {M:Nat->Prop}:∀{l:List AV} {vs:List Value},aO M w β l vs->(l.all fun v=>!v.isAgg&&!v.isTuple)=true->cS M w β l vs
 |[],vs,h,_=>by cases h;exact trivial
 |a::l,vs,h,hall=>by
  obtain⟨c1,c2,rfl,h1,h2⟩:=h.split
  simp only[List.all_cons,Bool.and_eq_true,Bool.not_eq_true']at hall
  have hl:c1.length=1:=by
   rw[h1.length]
   have:=hall.1.1
   cases a<;>first|rfl|cases this
  obtain⟨x,rfl⟩:∃x,c1=[x]:=by
   match c1,hl with
   |[x],_=>simp
  exact⟨.cK h1 hall.1.1,KN h2 hall.2⟩
theorem cS.Nu {M:Nat->Prop}:∀{l:List AV} {xs:List Value},cS M w β l xs->(l.all fun v=>!v.isAgg&&!v.isTuple)=true->aO M w β l xs
 |[],[],_,_=>.nil
 |a::l,x::xs,h,hall=>by
  simp only[List.all_cons,Bool.and_eq_true,Bool.not_eq_true']at hall
  have:=aO.cons (h.1.cell hall.1.1) (cS.Nu h.2 hall.2)
  grind
 |[],_::_,h,_=>h.elim
 |_::_,[],h,_=>h.elim
theorem cS.two {M:Nat->Prop} {a b:AV} {xs:List Value} (h:cS M w β [a,b] xs):∃x y,xs=[x,y]/\bF M w β a x/\bF M w β b y:=by
 match xs,h with
 |[x,y],h=>exact⟨x,y,rfl,h.1,h.2.1⟩
theorem cS.single {M:Nat->Prop} {a:AV} {xs:List Value} (h:cS M w β [a] xs):∃x,xs=[x]/\bF M w β a x:=by
 match xs,h with
 |[x],h=>exact⟨x,rfl,h.1⟩
theorem cS.get {M:Nat->Prop}:∀{l:List AV} {xs:List Value},cS M w β l xs->∀(i:Nat) (v:AV),l[i]?=some v->∃x,xs[i]?=some x/\bF M w β v x
 |[],[],_,i,v,h=>by grind
 |a::l,x::xs,h,0,v,hi=>by simp at hi;subst hi;exact⟨x,rfl,h.1⟩
 |a::l,x::xs,h,i+1,v,hi=>by simpa using cS.get h.2 i v (by grind)
 |[],_::_,h,_,_,_=>h.elim
 |_::_,[],h,_,_,_=>h.elim
theorem bF.C5 {M:Nat->Prop} {k:IntKind} {n:Int} {x:Value} (h:bF M w β (.int k n) x):x=.int k n:=bP.int h
theorem agU {M:Nat->Prop} {v:AV} {x:Value} (hv:bF M w β v x) {n:Nat} (hn:lenOf v=some n):∃base cap,x=.slice base n cap:=by
 cases v<;>simp only[lenOf,ay,reduceCtorEq]at hn
 case ak=>subst hn;obtain⟨base,cap,_,rfl,_⟩:=hv.bY.ak;simp
 case mag=>subst hn;obtain⟨base,cap,rfl,_⟩:=hv.bY.mag;simp
 case own=>
  subst hn
  rcases hv.bY.own with⟨b,o,cap,_,rfl,_⟩|⟨rfl,_,rfl,_⟩
  all_goals simp
 case nil=>have:=hv.bY.nil;grind
include hT in
theorem afK {M:Nat->Prop} {t:TypeId} {ti ei:TI} (ht:look t T=some ti) {e:TypeId} (hd:ti.desc=.slice e) (he:look e T=some ei) {v:AV} {x:Value} (hv:bF M w β v x)
  {ρ:Operand->Option AV} {ev:Operand->Value} (hρ:∀x v,ρ x=some v->bP M w β v (ev x)) {lo hi mx:Option Operand} {l h m:Int} {n:Nat} (hn:lenOf v=some n)
  (hl:cX ρ 0 lo=some l) (hh:cX ρ n hi=some h) (hm:cX ρ h mx=some m) (h0:0<=l) (h1:l<=h) (h2:h<=m) (h3:m<=n) (hmx:mx.isSome=true->hi.isSome=true):
  ∀u,sr ei.size v l.toNat h.toNat=some u->
   ∃y,(Instr.sliceAt t x (lo.map ev) (hi.map ev) (mx.map ev)).run P w=.ok y w/\bF M w β u y:=by
 intro u hu
 have main:∀base cap,x=.slice base n cap->n<=cap->∃m':Nat,(Instr.sliceAt t x (lo.map ev) (hi.map ev) (mx.map ev)).run P w=
   .ok (.slice (if m'=l.toNat then base else base.map (·.add (l.toNat*ei.size))) (h.toNat-l.toNat) (m'-l.toNat)) w/\h.toNat<=m'/\m'<=cap:=fun base cap hx hc=>by
  obtain⟨m',q1,q2,q3⟩:=YK (P:=P) hρ hl hh hm h0 h1 h2 h3 hc hmx
  subst hx
  exact⟨m',zE hT ht hd he q1,q2,q3⟩
 cases v with
 |ak es n' f=>
  simp only[lenOf,ay]at hn
  subst hn
  simp only[sr]at hu
  split at hu
  ·simp at hu
   subst hu
   obtain⟨base,cap,cf,rfl,g1,g2,g3,g4,g5⟩:=hv.bY.ak
   obtain⟨m',q1,q2,q3⟩:=main base cap rfl g3
   refine⟨_,q1,.cK (.ak (cf:=fun i=>cf (i+l.toNat)) ?_ g2 aa (fun i hi=>g4 _ aa) (fun i hi=>g5 _ aa) .nil) rfl⟩
   by_cases hz:h.toNat-l.toNat=0
   ·omega
   ·right
    rcases g1 with g1|⟨b,o,rfl,g1⟩
    ·omega
    ·refine⟨b,o+l.toNat*ei.size,?_,fun i hi=>?_⟩
     ·rw[if_neg aa];simp[Addr.add_mid]
     grind
  grind
 |mag N=>
  simp only[lenOf,ay]at hn
  subst hn
  simp only[sr]at hu
  split at hu
  ·simp at hu
   subst hu
   obtain⟨base,cap,rfl,g1,g2⟩:=hv.bY.mag
   obtain⟨m',q1,q2,q3⟩:=main base cap rfl g2
   refine⟨_,q1,.cK (.ak (cf:=fun i=>[.int .u32 (aD N (i+l.toNat))]) ?_ aa aa (fun i hi=>rfl) (fun i hi=>.int .nil) .nil) rfl⟩
   by_cases hz:h.toNat-l.toNat=0
   ·omega
   ·right
    rcases g1 with g1|⟨b,o,rfl,g1⟩
    ·subst g1;rw[we]at h3;omega
    ·refine⟨b,o+l.toNat*ei.size,?_,fun i hi=>?_⟩
     ·rw[if_neg aa];simp[Addr.add_mid]
     ·obtain⟨cs,ty,fr,p1,p2,p3⟩:=g1
      refine⟨cs,ty,fr,p1,p2,fun j v hv=>?_⟩
      have:=p3 _ _ (CK (N:=N) (i:=i+l.toNat) aa)
      grind
  grind
 |own k es s n'=>
  simp only[lenOf,ay]at hn
  subst hn
  simp only[sr]at hu
  split at hu
  ·simp at hu
   subst hu
   rcases hv.bY.own with g|⟨rfl,rfl,rfl,g6⟩
   rotate_left
   ·grind
   obtain⟨b,o,cap,N,rfl,g1,g2,g3,g4,g5,g6⟩:=g
   obtain⟨m',q1,q2,q3⟩:=main _ cap rfl g4
   refine⟨_,q1,?_⟩
   by_cases hz:m'=l.toNat
   ·rw[if_pos hz]
    exact .cK (.own g1 ⟨aa,aa⟩ aa (.inl aa) g6 .nil) rfl
   ·rw[if_neg hz]
    simp only[Option.map_some,Addr.add_mid]
    refine .cK (.own g1 ⟨aa,aa⟩ aa (.inr ?_) g6 .nil) rfl
    grind
  grind
 |nil=>
  simp only[lenOf,ay]at hn
  simp only[sr,ay]at hu
  have:=hv.bY.nil
  grind
 |_=>simp[lenOf]at hn
theorem VW {M:Nat->Prop} {ρ:Operand->Option AV} {ev:Operand->Value} (hρ:∀x v,ρ x=some v->bP M w β v (ev x)) {lo hi:Option Operand} {l h:Int} {n:Nat}
  (hl:cX ρ 0 lo=some l) (hh:cX ρ n hi=some h) (h0:0<=l) (h1:l<=h) (h3:h<=n):
  (Instr.sliceBounds false n n (lo.map ev) (hi.map ev) none).run P w=.ok (l.toNat,h.toNat,n) w:=by
 rcases jw hρ hh with⟨rfl,rfl⟩|⟨kh,oh,rfl,hoh⟩
 ·rcases jw hρ hl with⟨rfl,rfl⟩|⟨kl,ol,rfl,hol⟩
  ·rfl
  ·simp[Instr.sliceBounds,hol,jE kl l n .sliceB h0 h1]
 ·have b2:=jE (P:=P) (w:=w) kh h n .sliceAlen aa aa
  rcases jw hρ hl with⟨rfl,rfl⟩|⟨kl,ol,rfl,hol⟩
  ·simp[Instr.sliceBounds,hoh,b2]
  ·simp[Instr.sliceBounds,hol,hoh,b2,jE kl l h.toNat .sliceB h0 aa]
include hT in
theorem RX (h:bB c st D β w) (hpre:∀k o,look k pre=some o->look k st=some o) (hD:∀k,D k->D' k) {t:TypeId} {ti ei:TI} (ht:look t T=some ti) {n:Nat} {e:TypeId} (hd:ti.desc=.array n e) (he:look e T=some ei) {v:AV} {x:Value} (hv:bP (aN c st β) w β v x)
  {ρ:Operand->Option AV} {ev:Operand->Value} (hρ:∀x v,ρ x=some v->bP (aN c st β) w β v (ev x)) {lo hi:Option Operand} {l b:Int}
  (hl:cX ρ 0 lo=some l) (hh:cX ρ n hi=some b) {r:fm} (hr:AJ pre ei n v l b=some r) (need:r.need):
  ∃y,(Instr.sliceAt t x (lo.map ev) (hi.map ev) none).run P w=.ok y w/\fM c st D' β w r.cH r.val y w:=by
 unfold AJ at hr
 split at hr
 ·rename_i k idx es off path
  split at hr
  ·rename_i o hk
   split at hr
   ·rename_i m hg
    split at hr
    ·rename_i hc
     simp at hr
     subst hr
     simp at hc
     obtain⟨⟨⟨⟨⟨c1,c2⟩,c3⟩,c4⟩,c5⟩,c6⟩:=hc
     obtain⟨n1,n2,n3,n4⟩:=need
     obtain⟨blk,N,hb,rfl⟩:=hv.ptr
     have hk':=hpre k o hk
     obtain⟨hw,hev⟩:=h.freeze hk'
     obtain⟨cs,ty,ps,e1,e2,e3,e4,e5,e6,_⟩:=h.elem hk' hb n1
     obtain⟨pr,cc,po,rfl,q1,q2,_⟩:=aO.path path e3 _ hg
     have q3:aO (aN c st β) w β m cc:=by simpa [AV.kids]using q2.lift.kids rfl
     have q4:aO (aN c st β) w bE m cc:=Au q3 c4
     have hfr:¬aN c (put k {o with wr:=false} st) β blk:=by
      obtain⟨b1,N1,cs1,ty1,a1,a2,_,_,_,_,a7,_⟩:=hw.obj k _ jr _ hb
      grind
     obtain⟨inf,hi',his,_⟩:=(hT e ei he).info
     have hu:=hd▸(hT t ti ht).dR
     refine⟨.slice (some (if n=l.toNat then⟨blk,idx*es+off,none⟩else Addr.add ⟨blk,idx*es+off,none⟩ (l.toNat*ei.size))) (b.toNat-l.toNat) (n-l.toNat),?_,β,hw.mA hD,hev,?_⟩
     ·simp[Instr.sliceAt,run_underlying hu w,Instr.sureAddr,VW (P:=P) hρ hl hh n2 n3 n4,sizeOf,typeInfo,hi',his]
     ·refine bF.bY (.cK ?_ rfl)
      obtain⟨g,hgl,hgr,hgm⟩:∃g:Nat->List Value,(∀i,i<n->(g i).length=ei.size)/\(∀i,i<n->aO (aN c st β) w bE [nth m ei.zero i] (g i))/\∀i,i<n->∀j v,(g i)[j]?=some v->cc[i*ei.size+j]?=some v:=by
       have:∀i,∃ps:List Value,i<n->ps.length=ei.size/\aO (aN c st β) w bE [nth m ei.zero i] ps/\∀j v,ps[j]?=some v->cc[i*ei.size+j]?=some v:=fun i=>by
        by_cases hi:i<n
        ·obtain⟨ps,p1,p2,p3⟩:=aO.nth (z:=ei.zero) q4 c3 i aa
         exact⟨ps,fun _=>⟨p1,p2,p3⟩⟩
        ·exact⟨[],fun h=>absurd h hi⟩
       obtain⟨g,hg⟩:=Classical.skolem.1 this
       exact⟨g,fun i hi=>(hg i hi).1,fun i hi=>(hg i hi).2.1,fun i hi=>(hg i hi).2.2⟩
      have hin:∀i,i<n->iz (aN c (put k {o with wr:=false} st) β) w blk (idx*es+off+i*ei.size) (g i):=fun i hi=>⟨cs,ty,_,e1,hfr,fun j u hu=>by
       have h1:=hgm i hi j u hu
       have h2:=Es e4 _ u h1
       rw[c1,q1,c2,<-Nat.add_assoc]at h2
       exact h2⟩
      by_cases hz:n=l.toNat
      ·exact .ak (cf:=fun i=>g (i+l.toNat)) (.inl aa) aa aa (fun i hi=>aa) (fun i hi=>aa) .nil
      ·rw[if_neg hz]
       refine .ak (cf:=fun i=>g (i+l.toNat)) (.inr ⟨blk,idx*es+off+l.toNat*ei.size,by simp[Addr.add_mid],fun i hi=>?_⟩) aa aa (fun i hi=>hgl _ aa) (fun i hi=>(hgr _ aa).pE hev) .nil
       have:=hin (i+l.toNat) aa
       rwa [Nat.add_mul,Nat.add_comm (i*ei.size),<-Nat.add_assoc]at this
    grind
   grind
  grind
 grind
end ops
end Go.Am
