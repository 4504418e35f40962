/- The abstract machine: values, stores, the evaluator of regions and of code. Plain definitions; nothing is proved here. -/
import Derived.Orders
import Derived.Laws.Tables
import Derived.Laws.CopyRow
import Derived.Deep.AppendSrc
import Derived.Laws.MakeOwn
import Derived.Laws.Cells
import Derived.Deep.MidRow
import Derived.OrdersIn
import Derived.Laws.Small
import Derived.Laws.Slices
set_option linter.unusedVariables false
namespace Go.Am
theorem aa {p:Prop} (h:p:=by omega):p:=h
theorem ax.{u} {α:Type u} {a b:α}:(some a=some b)=(a=b):=Option.some.injEq a b
theorem bz {p:Prop} [Decidable p]:(decide p=true)=p:=decide_eq_true_eq
theorem bG {p:Prop} {x:Decidable p}:decide p=false↔¬p:=decide_eq_false_iff_not
theorem aR {n:Nat}:n<=n:=Nat.le_refl n
theorem br {n:Nat}:(n:Int).toNat=n:=Int.toNat_natCast n
inductive AV where
 |bool (b:Bool)
 |int (k:IntKind) (n:Int)
 |rat (q:Rat) (n:Nat)
 |mag (N:Nat)
 |agg (l:List AV)
 |ak (es:Nat) (n:Nat) (f:Nat->AV)
 |eB (b:Bool) (es:Nat) (n:Nat) (f:Nat->AV)
 |nil
 |void
 |str (s:List UInt8)
 |bn (v:AV)
 |ptr (k idx es off:Nat) (path:List Nat)
 |own (k es start len:Nat)
 |func (f:FuncId) (caps:List AV)
 |tuple (l:List AV)
 |bS (c:Nat) (v:AV)
def nl (N:Nat):Nat:=if N=0 then 0 else N.log2/32+1
def aB (N i:Nat):Nat:=N/2^(32*i)%2^32
namespace AV
mutual
def size:AV->Nat
 |.rat _ _=>3
 |.agg l=>sizes l
 |_=>1
def sizes:List AV->Nat
 |[]=>0
 |a::l=>size a+sizes l
end
def isAgg:AV->Bool
 |.rat _ _=>true
 |.agg _=>true
 |_=>false
def isTuple:AV->Bool
 |.tuple _=>true
 |_=>false
def kids:AV->List AV
 |.rat q _=>[.bool (decide (q<0)),.mag q.num.natAbs,.mag (if q.den=1 then 0 else q.den)]
 |.agg l=>l
 |_=>[]
def nS:AV->List Nat->Option AV
 |v,[]=>some v
 |v,i::p=>match v.kids[i]? with
  |some c=>nS c p
  |none=>none
def qy:AV->List Nat->Nat
 |_,[]=>0
 |v,i::p=>match v.kids[i]? with
  |some c=>sizes (v.kids.take i)+qy c p
  |none=>0
def rC:AV->List Nat->AV->Option AV
 |_,[],x=>some x
 |v,i::p,x=>match v.kids[i]? with
  |some c=>match rC c p x with
   |some c'=>some (.agg (v.kids.set i c'))
   |none=>none
  |none=>none
mutual
def keys:AV->List Nat
 |.ptr k _ _ _ _=>[k]
 |.own k _ _ _=>[k]
 |.agg l=>bI l
 |.func _ l=>bI l
 |.tuple l=>bI l
 |.bS _ v=>keys v
 |_=>[]
def bI:List AV->List Nat
 |[]=>[]
 |a::l=>keys a++bI l
end
end AV
structure az where
 row:Bool
 wr:Bool
 es:Nat
 len:Nat
 f:Nat->AV
abbrev aD:=List (Nat×az)
def look {α:Type} (k:Nat):List (Nat×α)->Option α
 |[]=>none
 |(j,a)::l=>if j==k then some a else look k l
def put {α:Type} (k:Nat) (a:α):List (Nat×α)->List (Nat×α)
 |[]=>[(k,a)]
 |(j,b)::l=>if j==k then(k,a)::l else(j,b)::put k a l
def cut {α:Type} (k:Nat):List (Nat×α)->List (Nat×α)
 |[]=>[]
 |(j,b)::l=>if j==k then cut k l else(j,b)::cut k l
def au:List Prop->Prop
 |[]=>True
 |[p]=>p
 |p::l=>p/\au l
structure dw where
 res:AV
 post:aD
 iH:List Prop
def dw.need (r:dw):Prop:=au r.iH
abbrev Spec:=Nat->List AV->aD->Option dw
abbrev aV:=List (FuncId×Spec)
structure TI where
 desc:TypeDesc
 size:Nat
 bytes:Nat
 zero:AV
abbrev Types:=List (TypeId×TI)
def ko:TypeDesc->Bool
 |.struct _=>true
 |.array _ _=>true
 |_=>false
structure eu where
 val:AV
 ct:List (Nat×Option az)
 iH:List Prop
def eu.need (r:eu):Prop:=au r.iH
def cu (v:AV):Option eu:=some ⟨v,[],[]⟩
mutual
def dj (st:aD):AV->Option AV
 |.own k es s n=>match look k st with
  |some o=>if o.row&&!o.wr&&o.es==es then some (.ak es n fun i=>o.f (i+s))else none
  |none=>none
 |.ptr _ _ _ _ _=>none
 |.agg l=>match fh st l with
  |some m=>some (.agg m)
  |none=>none
 |.func f l=>match fh st l with
  |some m=>if m.all (fun v=>!v.isAgg&&!v.isTuple)then some (.func f m)else none
  |none=>none
 |.tuple _=>none
 |.bS c v=>match dj st v with
  |some u=>some (.bS c u)
  |none=>none
 |v=>some v
def fh (st:aD):List AV->Option (List AV)
 |[]=>some []
 |a::l=>match dj st a,fh st l with
  |some b,some m=>some (b::m)
  |_,_=>none
end
def ofConst:Value->Option AV
 |.bool b=>some (.bool b)
 |.int k n=>some (.int k n)
 |.slice none 0 0=>some .nil
 |.pointer none=>some .void
 |.nilFunc=>some .void
 |.string s=>some (.str s.data.toList)
 |_=>none
def En (op:BinOp) (k:IntKind) (a b:Int):Option eu:=
 match op with
 |.add=>cu (.int k (k.wrap (a+b)))
 |.sub=>cu (.int k (k.wrap (a-b)))
 |.mul=>cu (.int k (k.wrap (a*b)))
 |.quo=>some ⟨.int k (k.wrap (a.tdiv b)),[],[b≠0]⟩
 |.rem=>some ⟨.int k (a.tmod b),[],[b≠0]⟩
 |.and=>cu (.int k (k.wrap ((BitVec.ofInt k.bits a&&&BitVec.ofInt k.bits b).toNat:Int)))
 |.or=>cu (.int k (k.wrap ((BitVec.ofInt k.bits a|||BitVec.ofInt k.bits b).toNat:Int)))
 |.eql=>cu (.bool (a==b))
 |.neq=>cu (.bool (a !=b))
 |.lss=>cu (.bool (decide (a<b)))
 |.leq=>cu (.bool (decide (a<=b)))
 |.gtr=>cu (.bool (decide (a>b)))
 |.geq=>cu (.bool (decide (a>=b)))
 |_=>none
def isKind:IntKind->IntKind->Bool
 |.i8,.i8|.i16,.i16|.i32,.i32|.i64,.i64|.u8,.u8|.u16,.u16|.u32,.u32|.u64,.u64=>true
 |_,_=>false
def og (T:Types) (t:TypeId) (op:BinOp) (x y:AV):Option eu:=
 match x,y with
 |.int k a,.int j b=>
  match op with
  |.shl=>some ⟨.int k (k.wrap (a*2^(min b.toNat k.bits))),[],[0<=b]⟩
  |.shr=>some ⟨.int k (a.fdiv (2^(min b.toNat k.bits))),[],[0<=b]⟩
  |_=>if isKind k j then En op k a b else none
 |.bool a,.bool b=>
  match look t T with
  |some ⟨.bool,_,_,_⟩=>match op with
   |.eql=>cu (.bool (a==b))
   |.neq=>cu (.bool (a !=b))
   |_=>none
  |_=>none
 |_,_=>none
def Kv:TypeDesc->Bool
 |.slice _=>true
 |_=>false
def isSlice (T:Types) (t:TypeId):Bool:=match look t T with
 |some ti=>Kv ti.desc
 |none=>false
def EN:AV->AV->Option Bool
 |.eB b _ _ _,.nil=>some b
 |_,_=>none
def nr:TypeDesc->Nat->Option Field
 |.struct fs,i=>fs[i]?
 |_,_=>none
def jb (T:Types) (v:AV) (i:Nat) (off:Nat) (t:TypeId):Option AV:=
 match v.kids[i]?,look t T with
 |some c,some ti=>if AV.sizes (v.kids.take i)==off&&c.size==ti.size&&c.isAgg==ko ti.desc&&ti.size !=0 then some c else none
 |_,_=>none
def elemAt (st:aD) (es:Nat) (x:AV) (i:Nat):Option (AV×Prop):=
 match x with
 |.ak e n f=>if e==es then some (.bn (f i),i<n)else none
 |.mag N=>if es==1 then some (.bn (.int .u32 (aB N i)),i<nl N)else none
 |.own k e s n=>if e==es then
   match look k st with
   |some o=>if o.row&&!o.wr&&o.es==e then some (.bn (o.f (i+s)),i<n)else some (.ptr k (i+s) es 0 [],i<n)
   |none=>none
  else none
 |_=>none
def lenOf:AV->Option Nat
 |.ak _ n _=>some n
 |.mag N=>some (nl N)
 |.own _ _ _ n=>some n
 |.nil=>some 0
 |_=>none
def readAll (st:aD) (es:Nat):AV->Option (Nat×(Nat->AV))
 |.ak e n f=>if e==es then some (n,f)else none
 |.mag N=>if es==1 then some (nl N,fun i=>.int .u32 (aB N i))else none
 |.nil=>some (0,fun _=>.nil)
 |.own k e s n=>if e==es then
   match look k st with
   |some o=>if o.row&&o.es==e then some (n,fun i=>o.f (i+s))else none
   |none=>none
  else none
 |_=>none
def nth (l:List AV) (z:AV) (i:Nat):AV:=match l[i]? with
 |some v=>v
 |none=>z
def placeOf (T:Types):TypeDesc->Nat->Option (Nat×TypeId)
 |.struct fs,i=>match fs[i]? with
  |some f=>some (f.offset,f.type)
  |none=>none
 |.array _ e,i=>match look e T with
  |some ti=>some (i*ti.size,e)
  |none=>none
 |_,_=>none
def By (T:Types):TypeDesc->Bool
 |.struct fs=>fs.toList.all fun f=>(look f.type T).isSome
 |.array _ e=>(look e T).isSome
 |_=>false
def qo (T:Types) (d:TypeDesc):List AV->List (Nat×AV)->Option (List AV)
 |l,[]=>some l
 |l,(i,x)::ps=>match placeOf T d i with
  |some (off,t)=>match jb T (.agg l) i off t with
   |some c=>if c.size==x.size&&c.isAgg==x.isAgg&&!x.isTuple then qo T d (l.set i x) ps else none
   |none=>none
  |none=>none
def qK (es:Nat):List AV->List (Nat×AV)->Option (List AV)
 |l,[]=>some l
 |l,(i,x)::ps=>if x.size==es&&!x.isTuple&&decide (i<l.length)then qK es (l.set i x) ps else none
def eM (ρ:Operand->Option AV):List Operand->Option (List AV)
 |[]=>some []
 |x::l=>match ρ x,eM ρ l with
  |some a,some m=>if a.isTuple then none else some (a::m)
  |_,_=>none
def jS (ρ:Operand->Option AV):List (Nat×Operand)->Option (List (Nat×AV))
 |[]=>some []
 |(i,x)::l=>match ρ x,jS ρ l with
  |some a,some m=>some ((i,a)::m)
  |_,_=>none
def cK (ρ:Operand->Option AV) (d:Int):Option Operand->Option Int
 |none=>some d
 |some x=>match ρ x with
  |some (.int _ n)=>some n
  |_=>none
def l5 (l:aD):List (Nat×Option az):=l.map fun p=>(p.1,some p.2)
def gb (l:aD):List (Nat×Option az):=l.map fun p=>(p.1,match p.2.es with
 |0=>none
 |_+1=>some p.2)
def pick (st:aD):List Nat->aD
 |[]=>[]
 |k::l=>match look k st with
  |some o=>put k o (pick st l)
  |none=>pick st l
def zG:FuncId×Spec:=(999999997,fun _ _ _=>none)
def Dk:aV->Bool
 |(f,_)::_=>f==999999997
 |[]=>false
def jQ (T:Types) (Γ:aV) (K:Nat) (ρ:Operand->Option AV) (st:aD) (c:Call):Option eu:=
 match c.callee with
 |.value f=>match ρ f,eM ρ c.args.toList with
  |some (.func g caps),some args=>match look g Γ with
   |some s=>match s K (args++caps) st with
    |some r=>some ⟨r.res,gb r.post,r.iH⟩
    |none=>none
   |none=>none
  |_,_=>none
 |.builtin .len=>match c.argTypes[0]?,eM ρ c.args.toList with
  |some t,some [x]=>match look t T with
   |some ⟨.slice _,_,_,_⟩=>match lenOf x with
    |some n=>cu (.int .i64 n)
    |none=>none
   |some ⟨.array n _,_,_,_⟩=>cu (.int .i64 n)
   |_=>none
  |_,_=>none
 |.builtin .cap=>match c.argTypes[0]?,eM ρ c.args.toList with
  |some t,some [.nil]=>match look t T with
   |some ⟨.slice _,_,_,_⟩=>cu (.int .i64 0)
   |_=>none
  |_,_=>none
 |.builtin .append=>match c.argTypes[0]?,c.argTypes[1]?,eM ρ c.args.toList with
  |some t,some t',some [x,y]=>match look t T,look t' T with
   |some ⟨.slice e,_,_,_⟩,some ⟨.slice _,_,_,_⟩=>match look e T with
    |some ti=>match readAll st ti.size y,x with
     |some (m,g),.nil=>if ti.size==0||ti.zero.size !=ti.size||ti.zero.isTuple then none else
      some ⟨.own K ti.size 0 m,[(K,some ⟨true,true,ti.size,m,g⟩)],match Dk Γ with
       |true=>[m*(ti.bytes+1)*2<=2^47]
       |false=>[0<m/\m*(ti.bytes+1)*2<=2^47]⟩
     |some (m,g),.own k es 0 n=>match look k st with
      |some o=>if o.row&&o.wr&&o.es==es&&es==ti.size&&ti.size !=0&&ti.zero.size==ti.size&&!ti.zero.isTuple&&!(y.keys.contains k)then
        some ⟨.own K es 0 (n+m),[(k,none),(K,some ⟨true,true,es,n+m,fun i=>if i<n then o.f i else g (i-n)⟩)],[(n+m)*(ti.bytes+1)*2<=2^47]⟩
       else none
      |none=>none
     |_,_=>none
    |none=>none
   |some ⟨.slice e,_,_,_⟩,some ⟨.int k',_,_,_⟩=>match x,y,look e T with
    |.nil,.int .i64 n,some ti=>if k' !=.i64||ti.size==0||ti.zero.size !=ti.size||ti.zero.isTuple then none else
     some ⟨.own K ti.size 0 n.toNat,[(K,some ⟨true,true,ti.size,n.toNat,fun _=>ti.zero⟩)],[0<n/\n.toNat*(ti.bytes+1)*2<=2^47]⟩
    |_,_,_=>none
   |_,_=>none
  |_,_,_=>none
 |.builtin .copy=>match c.argTypes[0]?,c.argTypes[1]?,eM ρ c.args.toList with
  |some t,some t',some [x,y]=>match look t T,look t' T with
   |some ⟨.slice e,_,_,_⟩,some ⟨.slice _,_,_,_⟩=>match look e T with
    |some ti=>match readAll st ti.size y,x with
     |some (m,g),.own k es s n=>match look k st with
      |some o=>if o.row&&o.wr&&o.es==es&&es==ti.size&&!(y.keys.contains k)then
        some ⟨.int .i64 (min m n:Nat),[(k,some {o with f:=fun i=>if s<=i/\i<s+min m n then g (i-s)else o.f i})],[]⟩
       else none
      |none=>none
     |_,_=>none
    |none=>none
   |_,_=>none
  |_,_,_=>none
 |.builtin .clear=>match c.argTypes[0]?,eM ρ c.args.toList with
  |some t,some [.own k es s n]=>match look t T with
   |some ⟨.slice e,_,_,_⟩=>match look e T,look k st with
    |some ti,some o=>if o.row&&o.wr&&o.es==es&&es==ti.size&&ti.zero.size==ti.size&&!ti.zero.isTuple then
      some ⟨.tuple [],[(k,some {o with f:=fun i=>if s<=i/\i<s+n then ti.zero else o.f i})],[]⟩
     else none
    |_,_=>none
   |_=>none
  |_,_=>none
 |.builtin .min=>match eM ρ c.args.toList with
  |some [.int k a,.int j b]=>if isKind k j then cu (.int k (if b<a then b else a))else none
  |_=>none
 |.builtin .max=>match eM ρ c.args.toList with
  |some [.int k a,.int j b]=>if isKind k j then cu (.int k (if a<b then b else a))else none
  |_=>none
 |_=>none
def lE (st:aD) (ti:TI):AV->Option eu
 |.bn v=>if v.size==ti.size&&v.isAgg==ko ti.desc&&!v.isTuple then cu v else none
 |.ptr k idx es off path=>match look k st with
  |some o=>if o.es==es&&(o.f idx).qy path==off then
    match(o.f idx).nS path with
    |some v=>if v.size==ti.size&&v.isAgg==ko ti.desc&&!v.isTuple then some ⟨v,[],[idx<o.len]⟩else none
    |none=>none
   else none
  |none=>none
 |_=>none
mutual
def pC (b:Bool):AV->AV->AV
 |.rat q n,.rat r m=>.rat (cond b q r) (cond b n m)
 |.agg l,.agg m=>match qJ b l m with
  |some x=>.agg x
  |none=>if b=true then .agg l else .agg m
 |u,v=>if b=true then u else v
def qJ (b:Bool):List AV->List AV->Option (List AV)
 |[],[]=>some []
 |u::l,v::m=>match qJ b l m with
  |some x=>some (pC b u v::x)
  |none=>none
 |_,_=>none
end
def EL (b:Bool) (k:IntKind) (n:Int):AV->AV
 |.int k' m=>match isKind k k' with
  |true=>.int k (cond b n m)
  |false=>if b=true then .int k n else .int k' m
 |v=>if b=true then .int k n else v
def Ei (b x:Bool):AV->AV
 |.bool y=>.bool (cond b x y)
 |v=>if b=true then .bool x else v
def Eg (b:Bool) (es n:Nat) (h:Nat->AV):AV->AV
 |.ak es' m g=>match Nat.beq es es' with
  |true=>.ak es (cond b n m) fun i=>cond b (h i) (g i)
  |false=>if b=true then .ak es n h else .ak es' m g
 |v=>if b=true then .ak es n h else v
def Av (r:Bool) (idx:Nat) (u:AV) (f:Nat->AV):Nat->AV:=match r,u with
 |true,.rat q n=>fun j=>pC (j==idx) (.rat q n) (f j)
 |true,.agg l=>fun j=>pC (j==idx) (.agg l) (f j)
 |true,.ak es n h=>fun j=>Eg (j==idx) es n h (f j)
 |_,u=>fun j=>if j==idx then u else f j
def I7 (r:Bool) (idx:Nat) (u:AV) (f:Nat->AV):Nat->AV:=match r,u with
 |true,.int k n=>fun j=>EL (j==idx) k n (f j)
 |true,.bool x=>fun j=>Ei (j==idx) x (f j)
 |r,u=>Av r idx u f
def EO (z r:Bool) (idx:Nat) (u:AV) (f:Nat->AV):Nat->AV:=match z with
 |true=>I7 r idx u f
 |false=>Av r idx u f
def xh (z:Bool) (st:aD) (ti:TI) (p x:AV):Option eu:=
 match p with
 |.ptr k idx es off path=>match look k st with
  |some o=>if o.es==es&&o.wr&&(o.f idx).qy path==off&&x.size==ti.size&&!x.isTuple then
    match(o.f idx).nS path,(if o.row then dj st x else some x)with
    |some v,some y=>if v.size==ti.size&&y.size==ti.size&&v.isAgg==y.isAgg then
      match(o.f idx).rC path y with
      |some u=>some ⟨.tuple [],[(k,some {o with f:=EO z o.row idx u o.f})],[idx<o.len]⟩
      |none=>none
     else none
    |_,_=>none
   else none
  |none=>none
 |_=>none
def ry (es:Nat) (v:AV) (l h:Nat):Option AV:=
 match v with
 |.ak e _ f=>if e==es&&es !=0 then some (.ak e (h-l) fun i=>f (i+l))else none
 |.mag N=>if es==1 then some (.ak 1 (h-l) fun i=>.int .u32 (aB N (i+l)))else none
 |.own k e s _=>if e==es&&es !=0 then some (.own k e (s+l) (h-l))else none
 |.nil=>some .nil
 |_=>none
def Ai (st:aD) (ti:TI) (n:Nat) (v:AV) (a b:Int):Option eu:=
 match v with
 |.ptr k idx es off path=>match look k st with
  |some o=>match(o.f idx).nS path with
   |some (.agg l)=>if o.es==es&&(o.f idx).qy path==off&&(l.all fun v=>v.size==ti.size)&&(AV.bI l).isEmpty&&ti.size !=0&&l.length==n then
     some ⟨.ak ti.size (b.toNat-a.toNat) (fun i=>nth l ti.zero (i+a.toNat)),[(k,some {o with wr:=false})],[idx<o.len,0<=a/\a<=b/\b<=n]⟩
    else none
   |_=>none
  |none=>none
 |_=>none
def isVoid:AV->Bool
 |.nil=>true
 |.void=>true
 |_=>false
def qB (st:aD):AV->Option (Nat×az)
 |.ptr k 0 es 0 []=>match look k st with
  |some o=>if !o.row&&o.es==es&&o.len==1&&(o.f 0).keys.isEmpty&&!(isVoid (o.f 0))then some (k,o)else none
  |none=>none
 |_=>none
def qz (st:aD):List AV->List AV
 |[]=>[]
 |v::l=>match qB st v with
  |some (_,o)=>.bn (o.f 0)::qz st l
  |none=>v::qz st l
def oV (st:aD):List AV->List (Nat×Option az)
 |[]=>[]
 |v::l=>match qB st v with
  |some (k,o)=>(k,some {o with wr:=false})::oV st l
  |none=>oV st l
def fm (T:Types) (Γ:aV) (K:Nat) (ρ:Operand->Option AV) (st:aD) (op:Op):Option eu:=
 match op with
 |.move x|.assign x=>match ρ x with
  |some v=>cu v
  |none=>none
 |.pick c a b=>match ρ c with
  |some (.bool t)=>match ρ a,ρ b with
   |some (.bool x),some (.bool y)=>cu (.bool (bif t then x else y))
   |some x,some y=>match t with
    |true=>cu x
    |false=>cu y
   |_,_=>none
  |_=>none
 |.alloc t=>match look t T with
  |some ti=>if ti.size==0||ti.zero.size !=ti.size||ti.zero.isTuple then none else some ⟨.ptr K 0 ti.size 0 [],[(K,some ⟨false,true,ti.size,1,fun _=>ti.zero⟩)],[]⟩
  |none=>none
 |.box _ x=>match ρ x with
  |some v=>if v.size==0||v.isTuple then none else some ⟨.ptr K 0 v.size 0 [],[(K,some ⟨false,true,v.size,1,fun _=>v⟩)],[]⟩
  |none=>none
 |.build t ps=>match look t T,jS ρ ps.toList with
  |some ti,some l=>if !By T ti.desc||!ti.zero.isAgg then none else match qo T ti.desc ti.zero.kids l with
   |some m=>cu (.agg m)
   |none=>none
  |_,_=>none
 |.buildSlice t n ps=>match look t T,jS ρ ps.toList with
  |some ⟨.slice e,_,_,_⟩,some l=>match look e T with
   |some ti=>if ti.size==0||ti.zero.size !=ti.size||ti.zero.isTuple then none else match qK ti.size (List.replicate n ti.zero) l with
    |some m=>match fh st m with
     |some m'=>some ⟨.own K ti.size 0 n,[(K,some ⟨true,true,ti.size,n,nth m' ti.zero⟩)],[n*ti.size<=2^24]⟩
     |none=>none
    |none=>none
   |none=>none
  |_,_=>none
 |.load t a=>match look t T,ρ a with
  |some ti,some p=>lE st ti p
  |_,_=>none
 |.store t a x=>match look t T,ρ a,ρ x with
  |some ti,some p,some v=>xh (Dk Γ) st ti p v
  |_,_,_=>none
 |.nilCheck x=>match ρ x with
  |some (.ptr k i es o p)=>cu (.ptr k i es o p)
  |some (.bn v)=>cu (.bn v)
  |some (.func f c)=>cu (.func f c)
  |_=>none
 |.binOp o t x y _=>match ρ x,ρ y with
  |some a,some b=>og T t o a b
  |_,_=>none
 |.unOp o _ x=>match o,ρ x with
  |.not,some (.bool b)=>cu (.bool (!b))
  |.neg,some (.int k n)=>cu (.int k (k.wrap (0-n)))
  |.xor,some (.int k n)=>cu (.int k (k.wrap ((BitVec.ofInt k.bits (if k.signed then-1 else k.max)^^^BitVec.ofInt k.bits n).toNat:Int)))
  |_,_=>none
 |.convert s d x=>match look s T,look d T,ρ x with
  |some ⟨.int _,_,_,_⟩,some ⟨.int k,_,_,_⟩,some (.int _ n)=>cu (.int k (k.wrap n))
  |_,_,_=>none
 |.sliceToArrayPointer t x=>match look t T,ρ x with
  |some ⟨.array m e,_,_,_⟩,some (.ak es n f)=>match look e T with
   |some ti=>if ti.size==es&&m !=0 then some ⟨.bn (.agg ((List.range m).map f)),[],[m<=n]⟩else none
   |none=>none
  |_,_=>none
 |.makeSlice t l c=>match look t T,ρ l,ρ c with
  |some ⟨.slice e,_,_,_⟩,some (.int .i64 n),some (.int .i64 m)=>match look e T with
   |some ti=>if ti.size==0||ti.zero.size !=ti.size||ti.zero.isTuple then none else
    some ⟨.own K ti.size 0 n.toNat,[(K,some ⟨true,true,ti.size,n.toNat,fun _=>ti.zero⟩)],[0<=n/\n<=m/\m<=2^47/\m*ti.bytes<=2^47]⟩
   |none=>none
  |_,_,_=>none
 |.slice t x lo hi mx=>match look t T,ρ x with
  |some ⟨.slice e,_,_,_⟩,some v=>match look e T,lenOf v with
   |some ti,some len=>match cK ρ 0 lo,cK ρ len hi with
    |some l,some h=>match cK ρ h mx with
     |some m=>if mx.isSome&&hi.isNone then none else match ry ti.size v l.toNat h.toNat with
      |some u=>some ⟨u,[],[0<=l/\l<=h/\h<=m/\m<=len]⟩
      |none=>none
     |none=>none
    |_,_=>none
   |_,_=>none
  |some ⟨.array n e,_,_,_⟩,some v=>match mx with
   |none=>match look e T,cK ρ 0 lo,cK ρ n hi with
    |some ti,some a,some b=>Ai st ti n v a b
    |_,_,_=>none
   |some _=>none
  |_,_=>none
 |.fieldAddr s x i=>match look s T,ρ x with
  |some ti,some p=>match nr ti.desc i with
   |some fd=>match p with
    |.bn v=>match jb T v i fd.offset fd.type with
     |some c=>cu (.bn c)
     |none=>none
    |.ptr k idx es off path=>match look fd.type T with
     |some fi=>if fi.size==0 then none else cu (.ptr k idx es (off+fd.offset) (path++[i]))
     |none=>none
    |_=>none
   |none=>none
  |_,_=>none
 |.field s x i=>match look s T,ρ x with
  |some ti,some v=>match nr ti.desc i with
   |some fd=>match jb T v i fd.offset fd.type with
    |some c=>cu c
    |none=>none
   |none=>none
  |_,_=>none
 |.indexAddr t x ix=>match look t T,ρ x,ρ ix with
  |some ⟨.array n e,_,_,_⟩,some p,some (.int _ i)=>match look e T with
   |some ti=>if ti.size==0 then none else match p with
    |.bn v=>match jb T v i.toNat (i.toNat*ti.size) e with
     |some c=>some ⟨.bn c,[],[0<=i/\i<n]⟩
     |none=>none
    |.ptr k idx es off path=>some ⟨.ptr k idx es (off+i.toNat*ti.size) (path++[i.toNat]),[],[0<=i/\i<n]⟩
    |_=>none
   |none=>none
  |some ⟨.slice e,_,_,_⟩,some v,some (.int _ i)=>match look e T with
   |some ti=>if ti.size==0 then none else match elemAt st ti.size v i.toNat with
    |some (r,need)=>some ⟨r,[],[0<=i/\need]⟩
    |none=>none
   |none=>none
  |_,_,_=>none
 |.index t x ix=>match look t T,ρ x,ρ ix with
  |some ⟨.array n e,_,_,_⟩,some v,some (.int _ i)=>match look e T with
   |some ti=>match jb T v i.toNat (i.toNat*ti.size) e with
    |some c=>some ⟨c,[],[0<=i/\i<n]⟩
    |none=>none
   |none=>none
  |_,_,_=>none
 |.extract x i=>match ρ x with
  |some (.tuple l)=>match l[i]? with
   |some v=>cu v
   |none=>none
  |_=>none
 |.makeFunc (.func f) first caps=>match first.toList,eM ρ caps.toList with
  |[],some l=>if l.all (fun v=>!v.isAgg&&!v.isTuple)&&(qz st l).all (fun v=>!v.isAgg&&!v.isTuple)then some ⟨.func f (qz st l),oV st l,[]⟩else none
  |_,_=>none
 |.call c=>jQ T Γ K ρ st c
 |_=>none
def bE:AV->AV
 |.eB _ es n f=>.ak es n f
 |.bS _ v=>v
 |v=>v
def eF (ρ:Operand->Option AV) (x:Operand):Option AV:=match ρ x with
 |some v=>some (bE v)
 |none=>none
def oN (T:Types) (ρ:Operand->Option AV):Op->Option AV
 |.binOp o t x y _=>match ρ x,ρ y with
  |some a,some b=>match EN a b,isSlice T t with
   |some b,true=>match o with
    |.eql=>some (.bool b)
    |.neq=>some (.bool (!b))
    |_=>none
   |_,_=>none
  |_,_=>none
 |_=>none
def isString:TypeDesc->Bool
 |.string=>true
 |_=>false
def m9 (s:ByteArray) (i:Nat):Nat:=match s.data[i]? with
 |some b=>b.toNat
 |none=>0
def bytesOf (f:Nat->AV):Nat->Option (List UInt8)
 |0=>some []
 |n+1=>match bytesOf f n,f n with
  |some l,.int .u8 b=>some (l++[UInt8.ofNat b.toNat])
  |_,_=>none
def oQ (T:Types) (st:aD) (ρ:Operand->Option AV):Op->Option eu
 |.binOp o _ x y _=>match ρ x,ρ y with
  |some (.str a),some (.str b)=>match o with
   |.add=>match Nat.ble (a.length+b.length) 1000000 with
    |true=>cu (.str (a++b))
    |false=>none
   |.eql=>cu (.bool (a==b))
   |.neq=>cu (.bool (!(a==b)))
   |_=>none
  |_,_=>none
 |.convert s d x=>match look s T,look d T,ρ x with
  |some ⟨.slice e,_,_,_⟩,some ⟨.string,_,_,_⟩,some v=>match look e T with
   |some ⟨.int .u8,_,_,_⟩=>match readAll st 1 v with
    |some (n,f)=>match bytesOf f n with
     |some l=>cu (.str l)
     |none=>none
    |none=>none
   |_=>none
  |_,_,_=>none
 |.index t (.const (.string s)) ix=>match ρ ix,look t T with
  |some (.int _ i),some ti=>if isString ti.desc then some ⟨.int .u8 (m9 s i.toNat),[],[0<=i/\i<s.size]⟩else none
  |_,_=>none
 |_=>none
def FF:Op->Bool
 |.move _=>true
 |.assign _=>true
 |_=>false
def sG:FuncId×Spec:=(999999999,fun _ _ _=>none)
def P2:aV->Bool
 |(f,_)::_=>f==999999999
 |[]=>false
def tX (T:Types) (ρ:Operand->Option AV) (st:aD):Op->Bool
 |.load _ a=>match ρ a with
  |some (.ptr k idx _ _ _)=>match look k st with
   |some o=>Nat.blt idx o.len
   |none=>false
  |_=>false
 |.store _ a _=>match ρ a with
  |some (.ptr k idx _ _ _)=>match look k st with
   |some o=>Nat.blt idx o.len
   |none=>false
  |_=>false
 |.indexAddr t x ix=>match look t T,ρ x,ρ ix with
  |some ⟨.array n _,_,_,_⟩,_,some (.int _ i)=>decide (0<=i/\i<n)
  |some ⟨.slice _,_,_,_⟩,some v,some (.int _ i)=>match lenOf v with
   |some n=>decide (0<=i)&&Nat.blt i.toNat n
   |none=>false
  |_,_,_=>false
 |.index t _ ix=>match look t T,ρ ix with
  |some ⟨.array n _,_,_,_⟩,some (.int _ i)=>decide (0<=i/\i<n)
  |_,_=>false
 |.slice _ x lo hi mx=>match ρ x with
  |some v=>match lenOf v with
   |some len=>match cK ρ 0 lo,cK ρ len hi with
    |some l,some h=>match cK ρ h mx with
     |some m=>decide (0<=l/\l<=h/\h<=m/\m<=len)
     |none=>false
    |_,_=>false
   |none=>false
  |none=>false
 |.buildSlice t n _=>match look t T with
  |some ⟨.slice e,_,_,_⟩=>match look e T with
   |some ti=>Nat.ble (n*ti.size) (2^24)
   |none=>false
  |_=>false
 |_=>false
def nG:FuncId×Spec:=(999999998,fun _ _ _=>none)
def Wi:aV->Bool
 |(f,_)::_=>f==999999998||(f==999999997||f==999999996)
 |[]=>false
def Az:IntKind->Bool
 |.i64=>true
 |_=>false
def s9 (T:Types) (ρ:Operand->Option AV):Op->Option Int
 |.binOp o _ x y _=>match ρ x,ρ y with
  |some (.int k a),some (.int j b)=>match Az k,Az j with
   |true,true=>match o with
    |.add=>some (a+b)
    |.sub=>some (a-b)
    |.mul=>some (a*b)
    |_=>none
   |_,_=>none
  |_,_=>none
 |.convert s d x=>match look s T,look d T,ρ x with
  |some ⟨.int _,_,_,_⟩,some ⟨.int k,_,_,_⟩,some (.int _ n)=>match Az k with
   |true=>some n
   |false=>none
  |_,_,_=>none
 |_=>none
def pY (T:Types) (Γ:aV) (K:Nat) (ρ:Operand->Option AV) (st:aD) (op:Op):Option eu:=
 match P2 Γ with
 |true=>match tX T ρ st op with
  |true=>match fm T Γ K ρ st op with
   |some r=>some ⟨r.val,r.ct,[]⟩
   |none=>none
  |false=>fm T Γ K ρ st op
 |false=>match Wi Γ with
  |true=>match s9 T ρ op with
   |some n=>some ⟨.int .i64 n,[],[-2^63<=n/\n<2^63]⟩
   |none=>fm T Γ K ρ st op
  |false=>fm T Γ K ρ st op
def cG:FuncId×Spec:=(999999996,fun _ _ _=>none)
def EE:aV->Bool
 |(f,_)::_=>f==999999996
 |[]=>false
def tq (T:Types) (st:aD) (t t':TypeId) (cap k es n:Nat):Option AV->Option eu
 |some (.own k' es' s m)=>match look t T,look t' T with
  |some ⟨.slice e,_,_,_⟩,some ⟨.slice _,_,_,_⟩=>match look e T,look k st with
   |some ti,some o=>if k'==k&&es'==es&&o.row&&o.wr&&o.es==es&&es==ti.size&&ti.size !=0&&!ti.zero.isTuple then
     some ⟨.bS cap (.own k es 0 (n+m)),[(k,some {o with f:=fun i=>if n<=i/\i<n+m then o.f (i-n+s)else o.f i})],[n+m<=cap/\n+m<=o.len]⟩
    else none
   |_,_=>none
  |_,_=>none
 |_=>none
def lH (T:Types) (Γ:aV) (K:Nat) (ρ:Operand->Option AV) (st:aD):Op->Option eu
 |.makeSlice t l c=>match EE Γ with
  |true=>match fm T Γ K (eF ρ) st (.makeSlice t l c),eF ρ c with
   |some r,some (.int .i64 m)=>some ⟨.bS m.toNat r.val,r.ct,r.iH⟩
   |_,_=>none
  |false=>none
 |.slice t x lo hi none=>match ρ x with
  |some (.bS cap (.ak es n f))=>match look t T with
   |some ⟨.slice e,_,_,_⟩=>match look e T,cK ρ 0 lo,cK ρ n hi with
    |some ti,some l,some h=>if ti.size==es&&es !=0 then
      some ⟨.bS (cap-l.toNat) (.ak es (h.toNat-l.toNat) fun i=>f (i+l.toNat)),[],[0<=l/\l<=h/\h<=n]⟩else none
    |_,_,_=>none
   |_=>none
  |some (.bS cap (.own k es s n))=>match look t T with
   |some ⟨.slice e,_,_,_⟩=>match look e T,look k st,cK ρ 0 lo,cK ρ n hi with
    |some ti,some o,some l,some h=>if ti.size==es&&es !=0&&o.row&&o.es==es then
      some ⟨.bS (cap-l.toNat) (.own k es (s+l.toNat) (h.toNat-l.toNat)),[],[0<=l/\l<=h/\h<=cap/\s+h<=o.len]⟩else none
    |_,_,_,_=>none
   |_=>none
  |_=>none
 |.slice t x lo hi (some mx)=>match EE Γ with
  |true=>match eF ρ x with
   |some (.ak es n f)=>match look t T with
    |some ⟨.slice e,_,_,_⟩=>match look e T,cK ρ 0 lo,cK ρ n hi,cK ρ 0 (some mx)with
     |some ti,some l,some h,some m=>if ti.size==es&&es !=0&&hi.isSome then
       some ⟨.bS (m.toNat-l.toNat) (.ak es (h.toNat-l.toNat) fun i=>f (i+l.toNat)),[],[0<=l/\l<=h/\h<=m/\m<=n]⟩else none
     |_,_,_,_=>none
    |_=>none
   |_=>none
  |false=>none
 |.call c=>match c.callee with
  |.value _=>match EE Γ with
   |true=>jQ T Γ K ρ st c
   |false=>none
  |.builtin .cap=>match c.argTypes[0]?,c.args.toList with
   |some t,[a]=>match look t T,ρ a with
    |some ⟨.slice _,_,_,_⟩,some (.bS n _)=>cu (.int .i64 n)
    |_,_=>none
   |_,_=>none
  |.builtin .append=>match c.argTypes[0]?,c.argTypes[1]?,c.args.toList with
   |some t,some t',[a,b]=>match ρ a with
    |some (.bS cap (.own k es 0 n))=>match tq T st t t' cap k es n (eF ρ b)with
     |some r=>some r
     |none=>match jQ T Γ K (eF ρ) st c with
      |some ⟨.own K' es 0 nm,ct,iH⟩=>some ⟨.bS cap (.own K' es 0 nm),ct,(nm<=cap)::iH⟩
      |_=>none
    |some (.bS cap (.ak es n f))=>match look t T,look t' T,eF ρ b with
     |some ⟨.slice e,_,_,_⟩,some ⟨.slice _,_,_,_⟩,some y=>match look e T with
      |some ti=>match readAll st ti.size y with
       |some (m,g)=>if ti.size==0||ti.zero.size !=ti.size||ti.zero.isTuple||ti.size !=es then none else
        some ⟨.own K es 0 (n+m),[(K,some ⟨true,true,es,n+m,fun i=>if i<n then f i else g (i-n)⟩)],[cap<n+m/\(n+m)*(ti.bytes+1)*2<=2^47]⟩
       |none=>none
      |none=>none
     |some ⟨.slice e,_,_,_⟩,some ⟨.int .i64,_,_,_⟩,some (.int .i64 m)=>match look e T with
      |some ti=>if ti.size==0||ti.zero.size !=ti.size||ti.zero.isTuple||ti.size !=es then none else
       some ⟨.own K es 0 (n+m.toNat),[(K,some ⟨true,true,es,n+m.toNat,fun i=>if i<n then f i else ti.zero⟩)],[0<m/\cap<n+m.toNat/\(n+m.toNat)*(ti.bytes+1)*2<=2^47]⟩
      |none=>none
     |_,_,_=>none
    |_=>none
   |_,_,_=>none
  |_=>none
 |_=>none
def kZ (T:Types) (Γ:aV) (K:Nat) (ρ:Operand->Option AV) (st:aD) (op:Op):Option eu:=
 match oN T ρ op with
 |some v=>cu v
 |none=>match oQ T st ρ op with
  |some r=>some r
  |none=>match lH T Γ K ρ st op with
   |some r=>some r
   |none=>match FF op with
    |true=>fm T Γ K ρ st op
    |false=>pY T Γ K (eF ρ) st op
structure aK where
 cS:List (Nat×AV)
 store:aD
 next:Nat
def aK.gQ (s:aK):Operand->Option AV
 |.tmp t=>look t s.cS
 |.const v=>ofConst v
 |.func f=>some (.func f [])
 |.global _=>none
def cN:List (Nat×Option az)->aD->aD
 |[],st=>st
 |(k,some o)::l,st=>cN l (put k o st)
 |(k,none)::l,st=>cN l (cut k st)
def oT (dst:Option Tmp) (v:AV) (sl:List (Nat×AV)):List (Nat×AV):=
 match dst with
 |some d=>put d v sl
 |none=>sl
def o4 (ops:List Oper) (sl:List (Nat×AV)) (o:Oper):Option Bool:=
 match o.guard with
 |none=>some true
 |some (g,want)=>match ops[g]? with
  |some p=>match p.dst with
   |some d=>match look d sl with
    |some (.bool b)=>some (match b,want with
     |true,true=>true
     |false,false=>true
     |_,_=>false)
    |some (.tuple [])=>some false
    |_=>none
   |none=>none
  |none=>none
structure Rec where
 res:eu
 asks:List Nat
def mL (ρ:Operand->Option AV):List Operand->List Nat
 |[]=>[]
 |x::l=>match ρ x with
  |some v=>v.keys++mL ρ l
  |none=>mL ρ l
def MZ:Op->Option Operand
 |.fieldAddr _ x _=>some x
 |.indexAddr _ x _=>some x
 |_=>none
def qE (ρ:Operand->Option AV) (op:Op):List Nat:=match FF op with
 |true=>[]
 |false=>match MZ op with
  |some x=>match ρ x with
   |some (.ptr _ _ _ _ _)=>[]
   |_=>mL ρ op.operands.toList
  |none=>mL ρ op.operands.toList
def mM (st:aD):List Nat->List Nat
 |[]=>[]
 |k::l=>match look k st with
  |some o=>if o.row then mM st l else AV.keys (o.f 0)++mM st l
  |none=>mM st l
def qi (ρ:Operand->Option AV):Op->List Nat
 |.call c=>match c.callee with
  |.value f=>match ρ f with
   |some (.func _ l)=>AV.bI l
   |_=>[]
  |_=>[]
 |_=>[]
def mw (st:aD) (ρ:Operand->Option AV) (op:Op):List Nat:=match mM st (qi ρ op)with
 |[]=>qE ρ op
 |k::l=>qE ρ op++k::l
def cR:Nat:=4096
def jZ (st:aD):aD:=st.map fun p=>(p.1,if p.2.row then {p.2 with wr:=false} else p.2)
def fJ:aD->List (Nat×Option az)
 |[]=>[]
 |(k,o)::l=>if o.row&&o.wr then(k,some {o with wr:=false})::fJ l else fJ l
def force {α:Type} (n:Nat) (k:Nat->α):α:=match n with
 |0=>k 0
 |m+1=>k (m+1)
theorem force_eq {α:Type} {n:Nat} {k:Nat->α}:force n k=k n:=by cases n<;>rfl
def guess (orc:List (Nat×Bool)) (i:Nat) (r:eu):eu:=
 match look i orc with
 |some t=>match r.val with
  |.bool b=>⟨.bool t,r.ct,(b=t)::r.iH⟩
  |_=>r
 |none=>r
def nc (T:Types) (Γ:aV) (orc:List (Nat×Bool)) (ops:List Oper) (s:aK) (i:Nat) (o:Oper):Option Rec:=
 match o4 ops s.cS o with
 |some true=>
  let ks:=mw s.store s.gQ o.op
  let st:=pick s.store ks
  force (s.next+cR*i) fun K=>match kZ T Γ K s.gQ st o.op with
  |some r=>some ⟨guess orc i r,ks⟩
  |none=>match fJ st with
   |[]=>none
   |e=>match kZ T Γ K s.gQ (jZ st) o.op with
    |some r=>some ⟨{guess orc i r with ct:=e++r.ct},ks⟩
    |none=>none
 |some false=>some ⟨⟨.tuple [],[],[]⟩,[]⟩
 |none=>none
def oe (s:aK) (o:Oper) (r:eu):aK:=
 {s with cS:=oT o.dst r.val s.cS,store:=cN r.ct s.store}
def kT (T:Types) (Γ:aV) (orc:List (Nat×Bool)) (ops:List Oper):List Oper->Nat->aK->Option (aK×List Prop×List Rec)
 |[],_,s=>some (s,[],[])
 |o::l,i,s=>match nc T Γ orc ops s i o with
  |some r=>match kT T Γ orc ops l (i+1) (oe s o r.res)with
   |some (s',need,rs)=>some (s',r.res.iH++need,r::rs)
   |none=>none
  |none=>none
def z8 (ops:List Oper) (o:Oper):List Nat:=
 (o.op.operands.toList.filterMap fun|.tmp t=>some t|_=>none)++
 (match o.guard with
  |some (g,_)=>match ops[g]? with
   |some p=>p.dst.toList
   |none=>[]
  |none=>[])
def meet (a b:List Nat):Bool:=a.any fun x=>b.any fun y=>x==y
structure Touch where
 rd:List Nat
 wr:List Nat
 ask:List Nat
 ct:List Nat
def lQ (ops:List Oper) (o:Oper) (r:Rec):Touch:=⟨z8 ops o,o.dst.toList,r.asks,r.res.ct.map (·.1)⟩
def Touch.mE (a b:Touch):Bool:=
 meet a.wr b.rd||meet a.wr b.wr||meet a.rd b.wr||meet a.ct b.ask||meet a.ct b.ct||meet a.ask b.ct
def pI:List Oper->List Nat->List Nat
 |[],acc=>acc
 |o::l,acc=>pI l (acc++[o.after.toList.foldl (fun m e=>if Region.binds .any e then m|||(1<<<e.on)|||acc.getD e.on 0 else m) 0])
def sP:List Oper->List Rec->List Nat->List Oper->List (Touch×Nat)
 |o::l,r::rs,a::as',ops=>(lQ ops o r,a)::sP l rs as' ops
 |_,_,_,_=>[]
def wR (i:Nat) (t:Touch):List (Touch×Nat)->Bool
 |[]=>true
 |(u,a)::l=>(!(t.mE u)||a.testBit i)&&wR i t l
def sI:List (Touch×Nat)->Nat->Bool
 |[],_=>true
 |(t,_)::l,i=>wR i t l&&sI l (i+1)
def rW:List Oper->Nat->Bool
 |[],_=>true
 |o::l,i=>(o.after.toList.all fun e=>!(Region.binds .any e)||decide (e.on<i))&&rW l (i+1)
def qH (T:Types) (Γ:aV) (orc:List (Nat×Bool)) (ops:Array Oper) (draws:Bool) (s:aK):Option (aK×List Prop):=
 match kT T Γ orc ops.toList ops.toList 0 s with
 |some (s',need,rs)=>
  if !draws||rW ops.toList 0&&sI (sP ops.toList rs (pI ops.toList []) ops.toList) 0 then
   force (s.next+cR*ops.size) fun nx=>some ({s' with next:=nx},need)
  else none
 |none=>none
inductive aq where
 |normal
 |exit (id:Nat)
 |ret
def fG (T:Types) (Γ:aV):Nat->Code->aK->Option (aq×aK×List Prop)
 |0,_,_=>none
 |n+1,c,s=>match c with
  |.skip=>some (.normal,s,[])
  |.label _=>some (.normal,s,[])
  |.region _ ops d=>match qH T Γ [] ops d s with
   |some (s',p)=>some (.normal,s',p)
   |none=>none
  |.seq x y=>match fG T Γ n x s with
   |some (.normal,s',p)=>match fG T Γ n y s' with
    |some (e,s'',q)=>some (e,s'',p++q)
    |none=>none
   |r=>r
  |.cond b x y=>match s.gQ b with
   |some (.bool t)=>match t with
    |true=>fG T Γ n x s
    |false=>fG T Γ n y s
   |_=>none
  |.block id x=>match fG T Γ n x s with
   |some (.exit j,s',p)=>if j==id then some (.normal,s',p)else some (.exit j,s',p)
   |r=>r
  |.loop x=>match fG T Γ n x s with
   |some (.normal,s',p)=>match fG T Γ n (.loop x) s' with
    |some (e,s'',q)=>some (e,s'',p++q)
    |none=>none
   |r=>r
  |.exit id=>some (.exit id,s,[])
  |.ret=>some (.ret,s,[])
  |_=>none
def aS:Nat->List AV->List (Nat×AV)
 |_,[]=>[]
 |i,a::l=>(i,a)::aS (i+1) l
def qw (T:Types) (s:aK):ResultVar->Option (AV×List Prop)
 |.tmp t=>match look t s.cS with
  |some v=>if v.isTuple then none else some (v,[])
  |none=>none
 |.cell a t=>match look t T,look a s.cS with
  |some ti,some p=>match lE s.store ti p with
   |some r=>some (r.val,r.iH)
   |none=>none
  |_,_=>none
def g8 (T:Types) (s:aK):List ResultVar->Option (List AV×List Prop)
 |[]=>some ([],[])
 |x::l=>match qw T s x,g8 T s l with
  |some (v,p),some (vs,q)=>some (v::vs,p++q)
  |_,_=>none
def jx:List AV->AV
 |[v]=>v
 |l=>.tuple l
abbrev bL (f:Nat->AV):az:=⟨false,true,3,1,f⟩
end Go.Am
namespace Go.Am
open AV
def Sz (q:Rat) (n:Nat):Prop:=q.num.natAbs<2^n/\q.den<2^n
def gI (M:Nat->Prop) (w:World) (b o:Nat) (ps:List Value):Prop:=
 ∃c ty fr,w.heap[b]?=some (.cells c ty fr)/\¬M b/\∀i v,ps[i]?=some v->c[o+i]?=some v
def th (N:Nat):List Value:=(List.range (nl N)).map fun i=>Value.int .u32 (aB N i)
abbrev aZ:=Nat->Option (Nat×Nat×Nat)
def bt:aZ:=fun _=>none
inductive aQ (M:Nat->Prop) (w:World):aZ->List AV->List Value->Prop
 |nil {β}:aQ M w β [] []
 |bool {β b l cs}:aQ M w β l cs->aQ M w β (.bool b::l) (.bool b::cs)
 |int {β k n l cs}:aQ M w β l cs->aQ M w β (.int k n::l) (.int k n::cs)
 |rat {β q n x y l cs}:Sz q n->aQ M w bt [.mag q.num.natAbs] [x]->aQ M w bt [.mag (if q.den=1 then 0 else q.den)] [y]->aQ M w β l cs->
   aQ M w β (.rat q n::l) (.bool (decide (q<0))::x::y::cs)
 |mag {β N base cap l cs}:(N=0\/∃b o,base=some ⟨b,o,none⟩/\gI M w b o (th N))->nl N<=cap->aQ M w β l cs->
   aQ M w β (.mag N::l) (.slice base (nl N) cap::cs)
 |agg {β p ps l cs}:aQ M w β p ps->aQ M w β l cs->aQ M w β (.agg p::l) (ps++cs)
 |ak {β es n f base cap l cs} {cf:Nat->List Value}:(n=0\/∃b o,base=some ⟨b,o,none⟩/\∀i,i<n->gI M w b (o+i*es) (cf i))->0<es->n<=cap->
   (∀i,i<n->(cf i).length=es)->(∀i,i<n->aQ M w bt [f i] (cf i))->aQ M w β l cs->
   aQ M w β (.ak es n f::l) (.slice base n cap::cs)
 |eB {β b es n f base cap l cs} {cf:Nat->List Value}:base.isNone=b->(n=0\/∃b o,base=some ⟨b,o,none⟩/\∀i,i<n->gI M w b (o+i*es) (cf i))->0<es->n<=cap->
   (∀i,i<n->(cf i).length=es)->(∀i,i<n->aQ M w bt [f i] (cf i))->aQ M w β l cs->
   aQ M w β (.eB b es n f::l) (.slice base n cap::cs)
 |vnil {β l cs}:aQ M w β l cs->aQ M w β (.nil::l) (.slice none 0 0::cs)
 |void {β x l cs}:x.oneCell'=true->aQ M w β l cs->aQ M w β (.void::l) (x::cs)
 |str {β s l cs}:aQ M w β l cs->aQ M w β (.str s::l) (.string ⟨s.toArray⟩::cs)
 |bn {β v ps b o l cs}:aQ M w bt [v] ps->gI M w b o ps->aQ M w β l cs->
   aQ M w β (.bn v::l) (.pointer (some ⟨b,o,none⟩)::cs)
 |ptr {β k idx es off path b} {N:Nat×Nat} {l cs}:β k=some (b,N)->aQ M w β l cs->
   aQ M w β (.ptr k idx es off path::l) (.pointer (some ⟨b,idx*es+off,none⟩)::cs)
 |own {β k es s n cap b} {N:Nat×Nat} {o l cs}:β k=some (b,N)->s+cap<=N.1/\s+n<=N.2->n<=cap->(cap=0\/o=s*es)->0<es->aQ M w β l cs->
   aQ M w β (.own k es s n::l) (.slice (some ⟨b,o,none⟩) n cap::cs)
 |own0 {β k es l cs}:0<es->aQ M w β l cs->aQ M w β (.own k es 0 0::l) (.slice none 0 0::cs)
 |func {β f caps vs l cs}:aQ M w β caps vs->(caps.all fun v=>!v.isAgg&&!v.isTuple)=true->aQ M w β l cs->
   aQ M w β (.func f caps::l) (.func (.func f) #[] vs.toArray::cs)
 |bS {β c v base n l cs}:v.isAgg=false->aQ M w β [v] [.slice base n c]->aQ M w β l cs->aQ M w β (.bS c v::l) (.slice base n c::cs)
theorem gI.mono {M M':Nat->Prop} {w w':World} {b o:Nat} {ps:List Value}
  (hw:∀b o,¬M b->w.heap[b]?=some o->w'.heap[b]?=some o/\¬M' b) (h:gI M w b o ps):gI M' w' b o ps:=by
 obtain⟨c,ty,fr,h1,h2,h3⟩:=h
 obtain⟨h4,h5⟩:=hw b _ h2 h1
 exact⟨c,ty,fr,h4,h5,h3⟩
def HC (M:Nat->Prop) (w:World) (M':Nat->Prop) (w':World):Prop:=∀b c ty fr,¬M b->w.heap[b]?=some (.cells c ty fr)->w'.heap[b]?=some (.cells c ty fr)/\¬M' b
theorem gI.gY {M M':Nat->Prop} {w w':World} {b o:Nat} {ps:List Value} (hw:HC M w M' w') (h:gI M w b o ps):gI M' w' b o ps:=by
 obtain⟨c,ty,fr,h1,h2,h3⟩:=h
 obtain⟨h4,h5⟩:=hw b _ _ _ h2 h1
 exact⟨c,ty,fr,h4,h5,h3⟩
theorem aQ.gY {M M':Nat->Prop} {w w':World} (hw:HC M w M' w')
  {β:aZ} {l:List AV} {cs:List Value} (h:aQ M w β l cs):∀β':aZ,(∀k x,β k=some x->β' k=some x)->aQ M' w' β' l cs:=by
 induction h with
 |nil=>exact fun _ _=>.nil
 |bool _ ih=>exact fun β' hb=>.bool (ih β' hb)
 |int _ ih=>exact fun β' hb=>.int (ih β' hb)
 |rat hs _ _ _ ih1 ih2 ih3=>exact fun β' hb=>.rat hs (ih1 _ fun _ _ h=>h) (ih2 _ fun _ _ h=>h) (ih3 β' hb)
 |mag hm hc _ ih=>exact fun β' hb=>.mag (hm.imp id fun⟨b,o,h1,h2⟩=>⟨b,o,h1,h2.gY hw⟩) hc (ih β' hb)
 |agg _ _ ih1 ih2=>exact fun β' hb=>.agg (ih1 β' hb) (ih2 β' hb)
 |ak hm h0 hc hl _ _ ih1 ih2=>exact fun β' hb=>.ak (hm.imp id fun⟨b,o,h1,h2⟩=>⟨b,o,h1,fun i hi=>(h2 i hi).gY hw⟩) h0 hc hl (fun i hi=>ih1 i hi _ fun _ _ h=>h) (ih2 β' hb)
 |eB hq hm h0 hc hl _ _ ih1 ih2=>exact fun β' hb=>.eB hq (hm.imp id fun⟨b,o,h1,h2⟩=>⟨b,o,h1,fun i hi=>(h2 i hi).gY hw⟩) h0 hc hl (fun i hi=>ih1 i hi _ fun _ _ h=>h) (ih2 β' hb)
 |vnil _ ih=>exact fun β' hb=>.vnil (ih β' hb)
 |void hx _ ih=>exact fun β' hb=>.void hx (ih β' hb)
 |str _ ih=>exact fun β' hb=>.str (ih β' hb)
 |bn _ hm _ ih1 ih2=>exact fun β' hb=>.bn (ih1 _ fun _ _ h=>h) (hm.gY hw) (ih2 β' hb)
 |ptr hk _ ih=>exact fun β' hb=>.ptr (hb _ _ hk) (ih β' hb)
 |own hk h1 h2 h4 h3 _ ih=>exact fun β' hb=>.own (hb _ _ hk) h1 h2 h4 h3 (ih β' hb)
 |own0 h3 _ ih=>exact fun β' hb=>.own0 h3 (ih β' hb)
 |func _ hc _ ih1 ih2=>exact fun β' hb=>.func (ih1 β' hb) hc (ih2 β' hb)
 |bS ha _ _ ih1 ih2=>exact fun β' hb=>.bS ha (ih1 β' hb) (ih2 β' hb)
theorem aQ.mono {M M':Nat->Prop} {w w':World} (hw:∀b o,¬M b->w.heap[b]?=some o->w'.heap[b]?=some o/\¬M' b)
  {β:aZ} {l:List AV} {cs:List Value} (h:aQ M w β l cs):∀β':aZ,(∀k x,β k=some x->β' k=some x)->aQ M' w' β' l cs:=
 h.gY fun b _ _ _=>hw b _
theorem aQ.length {M:Nat->Prop} {w:World} {β:aZ} {l:List AV} {cs:List Value} (h:aQ M w β l cs):cs.length=sizes l:=by
 induction h<;>simp_all [sizes,size]<;>omega
theorem aQ.EA {M:Nat->Prop} {w:World} {β:aZ} {l:List AV} {cs:List Value} (h:aQ M w β l cs):∀v∈cs,v.oneCell'=true:=by
 induction h with
 |nil=>simp
 |rat hs h1 h2 _ ih1 ih2 ih3=>
  intro v hv
  simp only[List.mem_cons]at hv
  rcases hv with rfl|rfl|rfl|hv
  ·rfl
  ·exact ih1 _ (by simp)
  ·exact ih2 _ (by simp)
  ·exact ih3 v hv
 |agg _ _ ih1 ih2=>
  intro v hv
  rcases List.mem_append.1 hv with hv|hv
  ·exact ih1 v hv
  ·exact ih2 v hv
 |ak _ _ _ _ _ _ _ ih2=>
  intro v hv
  rcases List.mem_cons.1 hv with rfl|hv
  ·rfl
  ·exact ih2 v hv
 |eB _ _ _ _ _ _ _ _ ih2=>
  intro v hv
  rcases List.mem_cons.1 hv with rfl|hv
  ·rfl
  ·exact ih2 v hv
 |bn _ _ _ _ ih2=>
  intro v hv
  rcases List.mem_cons.1 hv with rfl|hv
  ·rfl
  ·exact ih2 v hv
 |func _ _ _ _ ih2=>
  intro v hv
  rcases List.mem_cons.1 hv with rfl|hv
  ·rfl
  ·exact ih2 v hv
 |bS _ _ _ _ ih2=>
  intro v hv
  rcases List.mem_cons.1 hv with rfl|hv
  ·rfl
  ·exact ih2 v hv
 |void hx _ ih2=>
  intro v hv
  rcases List.mem_cons.1 hv with rfl|hv
  ·exact hx
  ·exact ih2 v hv
 |_=>
  rename_i ih
  intro v hv
  rcases List.mem_cons.1 hv with rfl|hv
  ·rfl
  ·exact ih v hv
theorem aQ.append {M:Nat->Prop} {w:World} {β:aZ} {l m:List AV} {cs ds:List Value} (h:aQ M w β l cs) (h':aQ M w β m ds):aQ M w β (l++m) (cs++ds):=by
 induction h with
 |nil=>exact h'
 |bool _ ih=>exact .bool (ih h')
 |int _ ih=>exact .int (ih h')
 |rat hs h1 h2 _ _ _ ih3=>exact .rat hs h1 h2 (ih3 h')
 |mag hm hc _ ih=>exact .mag hm hc (ih h')
 |agg h1 _ _ ih2=>rw[List.append_assoc];exact .agg h1 (ih2 h')
 |ak hm h0 hc hl h1 _ _ ih2=>exact .ak hm h0 hc hl h1 (ih2 h')
 |eB hq hm h0 hc hl h1 _ _ ih2=>exact .eB hq hm h0 hc hl h1 (ih2 h')
 |vnil _ ih=>exact .vnil (ih h')
 |void hx _ ih=>exact .void hx (ih h')
 |str _ ih=>exact .str (ih h')
 |bn h1 hm _ _ ih2=>exact .bn h1 hm (ih2 h')
 |ptr hk _ ih=>exact .ptr hk (ih h')
 |own hk h1 h2 h4 h3 _ ih=>exact .own hk h1 h2 h4 h3 (ih h')
 |own0 h3 _ ih=>exact .own0 h3 (ih h')
 |func h1 hc _ _ ih2=>exact .func h1 hc (ih2 h')
 |bS ha h1 _ _ ih2=>exact .bS ha h1 (ih2 h')
theorem aQ.split {M:Nat->Prop} {w:World} {β:aZ} {a:AV} {l:List AV} {cs:List Value} (h:aQ M w β (a::l) cs):
  ∃c1 c2,cs=c1++c2/\aQ M w β [a] c1/\aQ M w β l c2:=by
 cases h with
 |bool h=>exact⟨[_],_,rfl,.bool .nil,h⟩
 |int h=>exact⟨[_],_,rfl,.int .nil,h⟩
 |rat hs h1 h2 h=>exact⟨[_,_,_],_,rfl,.rat hs h1 h2 .nil,h⟩
 |mag hm hc h=>exact⟨[_],_,rfl,.mag hm hc .nil,h⟩
 |agg h1 h=>exact⟨_,_,rfl,by simpa using aQ.agg h1 .nil,h⟩
 |ak hm h0 hc hl h1 h=>exact⟨[_],_,rfl,.ak hm h0 hc hl h1 .nil,h⟩
 |eB hq hm h0 hc hl h1 h=>exact⟨[_],_,rfl,.eB hq hm h0 hc hl h1 .nil,h⟩
 |vnil h=>exact⟨[_],_,rfl,.vnil .nil,h⟩
 |void hx h=>exact⟨[_],_,rfl,.void hx .nil,h⟩
 |str h=>exact⟨[_],_,rfl,.str .nil,h⟩
 |bn h1 hm h=>exact⟨[_],_,rfl,.bn h1 hm .nil,h⟩
 |ptr hk h=>exact⟨[_],_,rfl,.ptr hk .nil,h⟩
 |own hk h1 h2 h4 h3 h=>exact⟨[_],_,rfl,.own hk h1 h2 h4 h3 .nil,h⟩
 |own0 h3 h=>exact⟨[_],_,rfl,.own0 h3 .nil,h⟩
 |func h1 hc h=>exact⟨[_],_,rfl,.func h1 hc .nil,h⟩
 |bS ha h1 h=>exact⟨[_],_,rfl,.bS ha h1 .nil,h⟩
theorem aQ.cons {M:Nat->Prop} {w:World} {β:aZ} {a:AV} {l:List AV} {cs ds:List Value} (h:aQ M w β [a] cs) (h':aQ M w β l ds):
  aQ M w β (a::l) (cs++ds):=h.append h'
theorem aQ.at {M:Nat->Prop} {w:World} {β:aZ}:∀{l:List AV} {cs:List Value} (_:aQ M w β l cs) (i:Nat) (a:AV) (_:l[i]?=some a),
  ∃pr c po,cs=pr++(c++po)/\pr.length=sizes (l.take i)/\aQ M w β [a] c/\∀a' c',aQ M w β [a'] c'->aQ M w β (l.set i a') (pr++(c'++po))
 |[],_,_,i,a,hi=>by simp at hi
 |b::l,cs,h,0,a,hi=>by
  obtain⟨c1,c2,rfl,h1,h2⟩:=h.split
  simp only[List.getElem?_cons_zero,ax]at hi
  subst hi
  exact⟨[],c1,c2,rfl,by simp[sizes],h1,fun a' c' h'=>h'.cons h2⟩
 |b::l,cs,h,i+1,a,hi=>by
  obtain⟨c1,c2,rfl,h1,h2⟩:=h.split
  obtain⟨pr,c,po,rfl,hp,hc,hs⟩:=aQ.at h2 i a (by simpa using hi)
  refine⟨c1++pr,c,po,by simp,?_,hc,fun a' c' h'=>?_⟩
  ·have:=h1.length
   simp[sizes]at this
   simp[sizes,hp,this]
  ·simpa using h1.cons (hs a' c' h')
theorem aQ.kids {M:Nat->Prop} {w:World} {β:aZ} {v:AV} {cs:List Value} (h:aQ M w β [v] cs) (hk:v.isAgg=true):aQ M w β v.kids cs:=by
 cases h with
 |rat hs h1 h2 h=>
  cases h
  refine .bool (aQ.cons (cs:=[_]) ?_ (aQ.cons (cs:=[_]) (ds:=[]) ?_ .nil))
  ·exact h1.mono (fun b o h h'=>⟨h',h⟩) _ (fun k x h=>by simp[bt]at h)
  ·exact h2.mono (fun b o h h'=>⟨h',h⟩) _ (fun k x h=>by simp[bt]at h)
 |agg h1 h=>cases h;simpa [AV.kids]using h1
 |_=>cases hk
theorem DA {v c:AV} {i:Nat} (h:v.kids[i]?=some c):v.isAgg=true:=by
 cases v<;>simp[AV.kids]at h<;>rfl
theorem aQ.path {M:Nat->Prop} {w:World} {β:aZ}:∀(p:List Nat) {v:AV} {cs:List Value} (_:aQ M w β [v] cs) (c:AV) (_:v.nS p=some c),
  ∃pr cc po,cs=pr++(cc++po)/\pr.length=v.qy p/\aQ M w β [c] cc/\
   ∀x u cx,aQ M w β [x] cx->v.rC p x=some u->aQ M w β [u] (pr++(cx++po))
 |[],v,cs,h,c,hc=>by
  simp only[nS,ax]at hc
  subst hc
  refine⟨[],cs,[],by simp,by simp[qy],h,fun x u cx hx hu=>?_⟩
  simp only[rC,ax]at hu
  subst hu
  simpa using hx
 |i::p,v,cs,h,c,hc=>by
  simp only[nS]at hc
  cases hk:v.kids[i]? with
  |none=>rw[hk]at hc;simp at hc
  |some d=>
   rw[hk]at hc
   simp only at hc
   obtain⟨pr,cd,po,rfl,hpr,hcd,hset⟩:=(h.kids (DA hk)).at i d hk
   obtain⟨pr',cc,po',rfl,hpr',hcc,hset'⟩:=aQ.path p hcd c hc
   refine⟨pr++pr',cc,po'++po,by simp,by simp[qy,hk,hpr,hpr'],hcc,fun x u cx hx hu=>?_⟩
   simp only[rC,hk]at hu
   cases hs:d.rC p x with
   |none=>rw[hs]at hu;simp at hu
   |some d'=>
    rw[hs]at hu
    simp only[ax]at hu
    subst hu
    have:=hset d' _ (hset' x d' cx hx hs)
    have h2:=aQ.agg (l:=[]) (cs:=[]) this .nil
    simpa using h2
def bw (M:Nat->Prop) (w:World) (β:aZ) (v:AV) (x:Value):Prop:=
 ∃cs,aQ M w β [v] cs/\((v.isAgg=true/\x=.agg cs.toArray)\/(v.isAgg=false/\cs=[x]))
def cH (M:Nat->Prop) (w:World) (β:aZ):List AV->List Value->Prop
 |[],[]=>True
 |a::l,x::xs=>bw M w β a x/\cH M w β l xs
 |_,_=>False
def bJ (M:Nat->Prop) (w:World) (β:aZ) (v:AV) (x:Value):Prop:=
 match v with
 |.tuple l=>∃vs:List Value,x=.tuple vs.toArray/\cH M w β l vs
 |v=>bw M w β v x
theorem bJ.DO {M:Nat->Prop} {w:World} {β:aZ} {v:AV} {x:Value} (h:v.isTuple=false):bJ M w β v x=bw M w β v x:=by
 cases v<;>first|rfl|simp[isTuple]at h
theorem bw.acN {M:Nat->Prop} {w:World} {β:aZ} {v:AV} {x:Value} (h:bw M w β v x):v.isTuple=false:=by
 obtain⟨cs,h,_⟩:=h
 cases v<;>first|rfl|cases h
theorem bw.bP {M:Nat->Prop} {w:World} {β:aZ} {v:AV} {x:Value} (h:bw M w β v x):bJ M w β v x:=by
 rw[bJ.DO h.acN];exact h
theorem bw.gY {M M':Nat->Prop} {w w':World} (hw:HC M w M' w')
  {β β':aZ} (hb:∀k x,β k=some x->β' k=some x) {v:AV} {x:Value} (h:bw M w β v x):bw M' w' β' v x:=by
 obtain⟨cs,h1,h2⟩:=h
 exact⟨cs,h1.gY hw β' hb,h2⟩
theorem cH.gY {M M':Nat->Prop} {w w':World} (hw:HC M w M' w')
  {β β':aZ} (hb:∀k x,β k=some x->β' k=some x):∀{l:List AV} {xs:List Value},cH M w β l xs->cH M' w' β' l xs
 |[],[],_=>trivial
 |_::_,_::_,h=>⟨h.1.gY hw hb,cH.gY hw hb h.2⟩
 |[],_::_,h=>h.elim
 |_::_,[],h=>h.elim
theorem bJ.gY {M M':Nat->Prop} {w w':World} (hw:HC M w M' w')
  {β β':aZ} (hb:∀k x,β k=some x->β' k=some x) {v:AV} {x:Value} (h:bJ M w β v x):bJ M' w' β' v x:=by
 by_cases hv:v.isTuple=true
 ·cases v<;>simp[isTuple]at hv
  obtain⟨vs,h1,h2⟩:=h
  exact⟨vs,h1,h2.gY hw hb⟩
 ·rw[bJ.DO (by simpa using hv)]at*
  exact h.gY hw hb
theorem bw.mono {M M':Nat->Prop} {w w':World} (hw:∀b o,¬M b->w.heap[b]?=some o->w'.heap[b]?=some o/\¬M' b)
  {β β':aZ} (hb:∀k x,β k=some x->β' k=some x) {v:AV} {x:Value} (h:bw M w β v x):bw M' w' β' v x:=h.gY (fun b _ _ _=>hw b _) hb
theorem cH.mono {M M':Nat->Prop} {w w':World} (hw:∀b o,¬M b->w.heap[b]?=some o->w'.heap[b]?=some o/\¬M' b)
  {β β':aZ} (hb:∀k x,β k=some x->β' k=some x) {l:List AV} {xs:List Value} (h:cH M w β l xs):cH M' w' β' l xs:=cH.gY (fun b _ _ _=>hw b _) hb h
theorem bJ.mono {M M':Nat->Prop} {w w':World} (hw:∀b o,¬M b->w.heap[b]?=some o->w'.heap[b]?=some o/\¬M' b)
  {β β':aZ} (hb:∀k x,β k=some x->β' k=some x) {v:AV} {x:Value} (h:bJ M w β v x):bJ M' w' β' v x:=h.gY (fun b _ _ _=>hw b _) hb
theorem bw.cells {M:Nat->Prop} {w:World} {β:aZ} {v:AV} {x:Value} (h:bw M w β v x):aQ M w β [v] x.cells.toList:=by
 obtain⟨cs,h1,h2⟩:=h
 rcases h2 with⟨h2,rfl⟩|⟨h2,rfl⟩
 ·simpa [Value.cells]using h1
 ·have hx:=h1.EA x (by simp)
  cases x<;>first|(simp[Value.oneCell']at hx;done)|simpa [Value.cells]using h1
theorem bw.xd {M:Nat->Prop} {w:World} {β:aZ} {v:AV} {cs:List Value} (h:aQ M w β [v] cs) (hv:v.isAgg=true):bw M w β v (.agg cs.toArray):=
 ⟨cs,h,.inl ⟨hv,rfl⟩⟩
theorem bw.cz {M:Nat->Prop} {w:World} {β:aZ} {v:AV} {x:Value} (h:aQ M w β [v] [x]) (hv:v.isAgg=false):bw M w β v x:=
 ⟨[x],h,.inr ⟨hv,rfl⟩⟩
theorem bw.cell {M:Nat->Prop} {w:World} {β:aZ} {v:AV} {x:Value} (h:bw M w β v x) (hv:v.isAgg=false):aQ M w β [v] [x]:=by
 obtain⟨cs,h1,h2⟩:=h
 rcases h2 with⟨h2,_⟩|⟨_,rfl⟩
 ·simp[hv]at h2
 ·exact h1
theorem zU {M:Nat->Prop} {w:World} {β:aZ} {l:List AV} {cs:List Value} (h:aQ M w β l cs):bI l=[]->aQ M w bt l cs:=by
 induction h with
 |nil=>exact fun _=>.nil
 |bool _ ih=>exact fun hk=>.bool (ih (by simpa [bI,keys]using hk))
 |int _ ih=>exact fun hk=>.int (ih (by simpa [bI,keys]using hk))
 |rat hs h1 h2 _ _ _ ih=>exact fun hk=>.rat hs h1 h2 (ih (by simpa [bI,keys]using hk))
 |mag h1 h2 _ ih=>exact fun hk=>.mag h1 h2 (ih (by simpa [bI,keys]using hk))
 |agg _ _ ih1 ih2=>exact fun hk=>.agg (ih1 (by simp[bI,keys]at hk;exact hk.1)) (ih2 (by simp[bI,keys]at hk;exact hk.2))
 |ak h1 h2 h3 h4 h5 _ _ ih=>exact fun hk=>.ak h1 h2 h3 h4 h5 (ih (by simpa [bI,keys]using hk))
 |eB hq h1 h2 h3 h4 h5 _ _ ih=>exact fun hk=>.eB hq h1 h2 h3 h4 h5 (ih (by simpa [bI,keys]using hk))
 |vnil _ ih=>exact fun hk=>.vnil (ih (by simpa [bI,keys]using hk))
 |void hx _ ih=>exact fun hk=>.void hx (ih (by simpa [bI,keys]using hk))
 |str _ ih=>exact fun hk=>.str (ih (by simpa [bI,keys]using hk))
 |bn h1 h2 _ _ ih=>exact fun hk=>.bn h1 h2 (ih (by simpa [bI,keys]using hk))
 |ptr _ _ _=>exact fun hk=>by simp[bI,keys]at hk
 |own _ _ _ _ _ _ _=>exact fun hk=>by simp[bI,keys]at hk
 |own0 _ _ _=>exact fun hk=>by simp[bI,keys]at hk
 |func _ hc _ ih1 ih2=>exact fun hk=>.func (ih1 (by simp[bI,keys]at hk;exact hk.1)) hc (ih2 (by simp[bI,keys]at hk;exact hk.2))
 |bS ha _ _ ih1 ih2=>exact fun hk=>.bS ha (ih1 (by simp[bI,keys]at hk ⊢;exact hk.1)) (ih2 (by simp[bI,keys]at hk;exact hk.2))
structure Ctx where
 Mf:Nat->Prop
 w0:World
 Mw:Nat->Prop
 k0:aZ
 ro:Option Nat:=none
def aO (c:Ctx) (st:aD) (β:aZ):Nat->Prop:=fun b=>c.Mf b\/∃k o,∃N:Nat×Nat,look k st=some o/\o.wr=true/\β k=some (b,N)
def zf (M:Nat->Prop) (w:World) (β:aZ) (k:Nat) (o:az):Prop:=
 ∃b,∃N:Nat×Nat,∃cs ty,β k=some (b,N)/\w.heap[b]?=some (.cells cs ty (0,0))/\cs.size=N.1*o.es/\0<o.es/\(o.len=N.2/\o.len<=N.1)/\(o.wr=true->M b)/\(o.wr=false->¬M b)/\
  ∀i,i<o.len->∃ps,ps.length=o.es/\aQ M w (if o.row then bt else β) [o.f i] ps/\∀j v,ps[j]?=some v->cs[i*o.es+j]?=some v
structure bu (c:Ctx) (st:aD) (D:Nat->Prop) (β:aZ) (w:World):Prop where
 obj:∀k o,look k st=some o->∀x,β k=some x->zf (aO c st β) w β k o
 dM:∀k o,look k st=some o->β k=none->(o.row=true/\o.len=0/\0<o.es)/\D k
 inj:∀k k' o o' b (N N':Nat×Nat),look k st=some o->look k' st=some o'->o.wr=true->β k=some (b,N)->β k'=some (b,N')->k=k'
 dom:∀k x,β k=some x->D k
 keep:∀k x,c.k0 k=some x->β k=some x
 lt:∀k b (N:Nat×Nat),β k=some (b,N)->b<w.heap.size
 os:w.os=c.w0.os
 tape:w.tape=c.w0.tape
 output:w.output=c.w0.output
 size:c.w0.heap.size<=w.heap.size
 block:∀b,b<c.w0.heap.size->¬c.Mw b->w.heap[b]?=c.w0.heap[b]?
 gB:∀b,c.Mf b->b<c.w0.heap.size/\¬c.Mw b
 new:∀k o b (N:Nat×Nat),look k st=some o->o.wr=true->β k=some (b,N)->c.w0.heap.size<=b\/c.Mw b
structure cX (M:Nat->Prop) (w:World) (β:aZ) (M':Nat->Prop) (w':World) (β':aZ):Prop where
 heap:∀b o,¬M b->w.heap[b]?=some o->w'.heap[b]?=some o/\¬M' b
 keys:∀k x,β k=some x->β' k=some x
theorem cX.refl (M:Nat->Prop) (w:World) (β:aZ):cX M w β M w β:=⟨fun _ _ h h'=>⟨h',h⟩,fun _ _ h=>h⟩
theorem cX.trans {M M1 M2:Nat->Prop} {w w1 w2:World} {β β1 β2:aZ} (h:cX M w β M1 w1 β1) (h':cX M1 w1 β1 M2 w2 β2):cX M w β M2 w2 β2:=
 ⟨fun b o hb ho=>let ⟨h1,h2⟩:=h.heap b o hb ho;h'.heap b o h2 h1,fun k x hk=>h'.keys k x (h.keys k x hk)⟩
theorem aQ.iE {M M':Nat->Prop} {w w':World} {β β':aZ} {l:List AV} {cs:List Value} (h:aQ M w β l cs) (e:cX M w β M' w' β'):aQ M' w' β' l cs:=
 h.mono e.heap β' e.keys
theorem aQ.nY {M M':Nat->Prop} {w w':World} {β β':aZ} {l:List AV} {cs:List Value} (h:aQ M w bt l cs) (e:cX M w β M' w' β'):aQ M' w' bt l cs:=
 h.mono e.heap bt fun _ _ h=>h
theorem aQ.td {M M':Nat->Prop} {w w':World} {β β':aZ} {r:Bool} {l:List AV} {cs:List Value} (h:aQ M w (if r then bt else β) l cs) (e:cX M w β M' w' β'):
  aQ M' w' (if r then bt else β') l cs:=by
 cases r
 ·exact h.iE e
 ·exact h.nY e
theorem bw.iE {M M':Nat->Prop} {w w':World} {β β':aZ} {v:AV} {x:Value} (h:bw M w β v x) (e:cX M w β M' w' β'):bw M' w' β' v x:=
 h.mono e.heap e.keys
theorem bJ.iE {M M':Nat->Prop} {w w':World} {β β':aZ} {v:AV} {x:Value} (h:bJ M w β v x) (e:cX M w β M' w' β'):bJ M' w' β' v x:=
 h.mono e.heap e.keys
section lists
variable {α:Type} {k j:Nat} {a:α} {l:List (Nat×α)}
theorem iT:look k (put k a l)=some a:=by
 induction l with
 |nil=>simp[put,look]
 |cons p l ih=>
  obtain⟨i,b⟩:=p
  simp only[put]
  by_cases h:(i==k)=true
  ·simp[h,look]
  ·simp[h,look,ih]
theorem fN (h:j≠k):look j (put k a l)=look j l:=by
 induction l with
 |nil=>simp[put,look];omega
 |cons p l ih=>
  obtain⟨i,b⟩:=p
  simp only[put]
  by_cases hi:(i==k)=true
  ·have:i=k:=by grind
   subst this
   have hne:¬i=j:=fun e=>h e.symm
   simp[look,hne]
  ·by_cases hj:(i==j)=true
   ·simp[hi,look,hj]
   ·simp[hi,look,hj,ih]
theorem yM:look j (put k a l)=if j=k then some a else look j l:=by
 split
 ·rename_i h;subst h;exact iT
 ·rename_i h;exact fN h
theorem AI:look j (cut k l)=if j=k then none else look j l:=by
 induction l with
 |nil=>simp[cut,look]
 |cons p l ih=>
  obtain⟨i,b⟩:=p
  simp only[cut]
  by_cases hi:i=k
  ·simp only[BEq.rfl,if_true,ih,look]
   grind
  ·have:(i==k)=false:=by grind
   simp only[this,Bool.false_eq_true,if_false,look,ih]
   grind
end lists
def aZ.set (β:aZ) (k:Nat) (x:Nat×Nat×Nat):aZ:=fun j=>if j=k then some x else β j
theorem aZ.gh (β:aZ) (k:Nat) (x:Nat×Nat×Nat):β.set k x k=some x:=by simp[aZ.set]
theorem aZ.gN (β:aZ) {k j:Nat} (x:Nat×Nat×Nat) (h:j≠k):β.set k x j=β j:=by simp[aZ.set,h]
theorem kM {w:World} {b:Nat} {o:Obj} (h:w.heap[b]?=some o):b<w.heap.size:=by
 grind
theorem qI {w:World} {o:Obj} {b:Nat} (h:b<w.heap.size):(w.alloc o).heap[b]?=w.heap[b]?:=by
 show(w.heap.push o)[b]?=_
 grind
theorem WN {w:World} {o:Obj}:(w.alloc o).heap[w.heap.size]?=some o:=by
 show(w.heap.push o)[w.heap.size]?=_
 simp
section change
variable {c:Ctx} {st:aD} {D D':Nat->Prop} {β:aZ} {w:World}
theorem bu.fresh (h:bu c st D β w) {K:Nat} (hK:¬D K):β K=none:=by
 cases hb:β K with
 |none=>rfl
 |some x=>exact absurd (h.dom _ _ hb) hK
theorem bu.unknown (h:bu c st D β w) {K:Nat} (hK:¬D K):look K st=none:=by
 cases hl:look K st with
 |none=>rfl
 |some o=>exact absurd (h.dM K o hl (h.fresh hK)).2 hK
theorem bu.lK (h:bu c st D β w) (hD:∀k,D k->D' k):bu c st D' β w:={h with dom:=fun k x hk=>hD _ (h.dom k x hk),dM:=fun k o hk hb=>⟨(h.dM k o hk hb).1,hD _ (h.dM k o hk hb).2⟩}
theorem bu.zB (h:bu c st D β w) {k:Nat} {o:az} {b:Nat} {N:Nat×Nat} (hk:look k st=some o) (hw:o.wr=true) (hb:β k=some (b,N)):¬c.Mf b:=fun hm=>by
 obtain⟨h1,h2⟩:=h.gB b hm
 rcases h.new k o b N hk hw hb with h3|h3
 all_goals grind
theorem bu.drew (h:bu c st D β w):bu c st D β w.drew:=by
 have e:cX (aO c st β) w β (aO c st β) w.drew β:=⟨fun b o h1 h2=>⟨h2,h1⟩,fun _ _ h=>h⟩
 refine {h with obj:=fun k o hk x hx=>?_}
 obtain⟨b,N,cs,ty,h1,h2,h3,h4,h5,h6,h7,h8⟩:=h.obj k o hk x hx
 refine⟨b,N,cs,ty,h1,h2,h3,h4,h5,h6,h7,fun i hi=>?_⟩
 obtain⟨ps,p1,p2,p3⟩:=h8 i hi
 exact⟨ps,p1,p2.td e,p3⟩
theorem cX.drew {M:Nat->Prop}:cX M w β M w.drew β:=⟨fun _ _ h1 h2=>⟨h2,h1⟩,fun _ _ h=>h⟩
theorem bu.wJ {w':World} (h:bu c st D β w) (hh:∀(b:Nat) x ty fr,w.heap[b]?=some (Obj.cells x ty fr)->w'.heap[b]?=some (Obj.cells x ty fr)) (h1:w'.os=w.os) (h2:w'.tape=w.tape) (h3:w'.output=w.output)
  (h4:w.heap.size<=w'.heap.size) (h5:∀b,b<c.w0.heap.size->w'.heap[b]?=w.heap[b]?):bu c st D β w':=by
 refine {h with obj:=fun k o hk x hx=>?_,lt:=fun k b N hk=>Nat.lt_of_lt_of_le (h.lt k b N hk) h4,os:=h1.trans h.os,tape:=h2.trans h.tape,output:=h3.trans h.output,size:=Nat.le_trans h.size h4,block:=fun b hb hm=>(h5 b hb).trans (h.block b hb hm)}
 obtain⟨b,N,cs,ty,q1,q2,q3,q4,q5,q6,q7,q8⟩:=h.obj k o hk x hx
 refine⟨b,N,cs,ty,q1,hh _ _ _ _ q2,q3,q4,q5,q6,q7,fun i hi=>?_⟩
 obtain⟨ps,p1,p2,p3⟩:=q8 i hi
 exact⟨ps,p1,p2.gY (fun b _ _ _ m g=>⟨hh _ _ _ _ g,m⟩) _ fun _ _ h=>h,p3⟩
theorem zf.iE {M M':Nat->Prop} {w w':World} {β β':aZ} {k:Nat} {o:az} (h:zf M w β k o) (e:cX M w β M' w' β')
  (hk:∀b (N:Nat×Nat) cs ty,β k=some (b,N)->w.heap[b]?=some (.cells cs ty (0,0))->w'.heap[b]?=some (.cells cs ty (0,0)))
  (h1:∀b (N:Nat×Nat),β k=some (b,N)->o.wr=true->M' b):zf M' w' β' k o:=by
 obtain⟨b,N,cs,ty,a1,a2,a3,a4,a5,a6,a7,a8⟩:=h
 refine⟨b,N,cs,ty,e.keys _ _ a1,hk b N cs ty a1 a2,a3,a4,a5,h1 b N a1,fun hw=>(e.heap b _ (a7 hw) a2).2,fun i hi=>?_⟩
 obtain⟨ps,p1,p2,p3⟩:=a8 i hi
 exact⟨ps,p1,p2.td e,p3⟩
theorem bu.alloc (h:bu c st D β w) {K:Nat} (hK:¬D K) (hD:∀k,D k->D' k) (hDK:D' K) {o:az} (hw:o.wr=true) {cs:Array Value} {ty:TypeId} {N:Nat}
  (hs:cs.size=N*o.es) (h0:0<o.es) (hl:o.len<=N)
  (hc:∀i,i<o.len->∃ps,ps.length=o.es/\aQ (aO c st β) w (if o.row then bt else β) [o.f i] ps/\∀j v,ps[j]?=some v->cs[i*o.es+j]?=some v):
  bu c (put K o st) D' (β.set K (w.heap.size,N,o.len)) (w.alloc (.cells cs ty))/\
   cX (aO c st β) w β (aO c (put K o st) (β.set K (w.heap.size,N,o.len))) (w.alloc (.cells cs ty)) (β.set K (w.heap.size,N,o.len)):=by
 have hbK:=h.fresh hK
 have hold:∀b x,w.heap[b]?=some x->(w.alloc (.cells cs ty)).heap[b]?=some x:=fun b x hx=>by
  rw[qI (kM hx)];omega
 have e:cX (aO c st β) w β (aO c (put K o st) (β.set K (w.heap.size,N,o.len))) (w.alloc (.cells cs ty)) (β.set K (w.heap.size,N,o.len)):=by
  refine⟨fun b x hb hx=>⟨hold b x hx,fun hm=>hb ?_⟩,fun k x hk=>?_⟩
  ·rcases hm with hm|⟨k,o',N',h1,h2,h3⟩
   ·exact .inl hm
   ·by_cases hkK:k=K
    ·subst hkK
     rw[aZ.gh]at h3
     grind
    ·rw[fN hkK]at h1
     rw[aZ.gN _ _ hkK]at h3
     exact .inr ⟨k,o',N',h1,h2,h3⟩
  ·have:k≠K:=fun e=>by grind
   rw[aZ.gN _ _ this];omega
 refine⟨?_,e⟩
 have hsz:(w.alloc (.cells cs ty)).heap.size=w.heap.size+1:=World.size_alloc ..
 refine {obj:=?_,dM:=fun k o' hk hb=>?_,inj:=?_,dom:=?_,keep:=fun k x hk=>e.keys _ _ (h.keep k x hk),lt:=?_,os:=h.os,tape:=h.tape,output:=h.output,size:=by have:=h.size;omega,block:=?_,gB:=h.gB,new:=?_}
 ·intro k o' hk x hx
  by_cases hkK:k=K
  ·subst hkK
   rw[iT]at hk
   simp at hk
   subst hk
   refine⟨w.heap.size,(N,o.len),cs,ty,aZ.gh _ _ _,WN,hs,h0,⟨rfl,hl⟩,fun _=>.inr ⟨k,o,(N,o.len),iT,hw,aZ.gh _ _ _⟩,fun hf=>by simp[hw]at hf,fun i hi=>?_⟩
   obtain⟨ps,p1,p2,p3⟩:=hc i hi
   exact⟨ps,p1,p2.td e,p3⟩
  ·rw[fN hkK]at hk
   rw[aZ.gN _ _ hkK]at hx
   refine(h.obj k o' hk x hx).iE e (fun b N' cs' ty' _ hx=>hold b _ hx) (fun b N' hb ho=>.inr ⟨k,o',N',?_,ho,?_⟩)
   ·rw[fN hkK];exact hk
   ·rw[aZ.gN _ _ hkK];exact hb
 ·by_cases hkK:k=K
  ·subst hkK;rw[aZ.gh]at hb;simp at hb
  ·rw[fN hkK]at hk
   rw[aZ.gN _ _ hkK]at hb
   exact⟨(h.dM k o' hk hb).1,hD _ (h.dM k o' hk hb).2⟩
 ·intro k k' o1 o2 b N1 N2 h1 h2 hw1 hb1 hb2
  by_cases hkK:k=K
  ·by_cases hkK':k'=K
   ·rw[hkK,hkK']
   ·subst hkK
    rw[aZ.gh]at hb1
    rw[aZ.gN _ _ hkK']at hb2
    have:=h.lt _ _ _ hb2
    simp at hb1;omega
  ·by_cases hkK':k'=K
   ·subst hkK'
    rw[aZ.gh]at hb2
    rw[aZ.gN _ _ hkK]at hb1
    have:=h.lt _ _ _ hb1
    simp at hb2;omega
   ·rw[fN hkK]at h1
    rw[fN hkK']at h2
    rw[aZ.gN _ _ hkK]at hb1
    rw[aZ.gN _ _ hkK']at hb2
    exact h.inj k k' o1 o2 b N1 N2 h1 h2 hw1 hb1 hb2
 ·intro k x hk
  by_cases hkK:k=K
  ·rw[hkK];exact hDK
  ·rw[aZ.gN _ _ hkK]at hk
   exact hD _ (h.dom k x hk)
 ·intro k b N' hk
  by_cases hkK:k=K
  ·subst hkK
   rw[aZ.gh]at hk
   simp at hk;omega
  ·rw[aZ.gN _ _ hkK]at hk
   have:=h.lt k b N' hk
   omega
 ·intro b hb hm
  rw[<-h.block b hb hm]
  have:=h.size
  exact qI aa
 ·intro k o' b N' hk ho hb
  by_cases hkK:k=K
  ·subst hkK
   rw[aZ.gh]at hb
   have:=h.size
   simp at hb;omega
  ·rw[fN hkK]at hk
   rw[aZ.gN _ _ hkK]at hb
   exact h.new k o' b N' hk ho hb
theorem bu.write (h:bu c st D β w) {k:Nat} {o o':az} (hk:look k st=some o) (hw:o.wr=true) {b:Nat} {N:Nat×Nat} (hb:β k=some (b,N)) {cs cs':Array Value} {ty:TypeId}
  (hh:w.heap[b]?=some (.cells cs ty (0,0))) (hsz:cs'.size=cs.size) (hes:o'.es=o.es) (hw':o'.wr=true) (hl:o'.len=o.len)
  (hc:∀i,i<o'.len->∃ps,ps.length=o'.es/\aQ (aO c st β) w (if o'.row then bt else β) [o'.f i] ps/\∀j v,ps[j]?=some v->cs'[i*o'.es+j]?=some v):
  bu c (put k o' st) D β (w.setRow b cs')/\cX (aO c st β) w β (aO c (put k o' st) β) (w.setRow b cs') β:=by
 have hM:aO c st β b:=.inr ⟨k,o,N,hk,hw,hb⟩
 have hother:∀b',b'≠b->(w.setRow b cs').heap[b']?=w.heap[b']?:=fun b' hne=>setRow_other w b b' cs' hne
 have hmm:∀b',aO c (put k o' st) β b'->aO c st β b':=fun b' hm=>by
  rcases hm with hm|⟨j,oj,Nj,h1,h2,h3⟩
  ·exact .inl hm
  ·by_cases hj:j=k
   ·grind
   ·rw[fN hj]at h1
    exact .inr ⟨j,oj,Nj,h1,h2,h3⟩
 have e:cX (aO c st β) w β (aO c (put k o' st) β) (w.setRow b cs') β:=by
  refine⟨fun b' x hb' hx=>⟨?_,fun hm=>hb' (hmm b' hm)⟩,fun _ _ h=>h⟩
  grind
 refine⟨?_,e⟩
 refine {obj:=?_,dM:=fun j oj hj hbj=>?_,inj:=?_,dom:=h.dom,keep:=h.keep,lt:=by simpa using h.lt,os:=h.os,tape:=h.tape,output:=h.output,size:=by simpa using h.size,block:=?_,gB:=h.gB,new:=?_}
 ·intro j oj hj x hx
  by_cases hjk:j=k
  ·subst hjk
   rw[iT]at hj
   simp at hj
   subst hj
   obtain⟨b1,N1,cs1,ty1,a1,a2,a3,a4,⟨a5,a5'⟩,_⟩:=h.obj j o hk _ hb
   rw[hb]at a1
   obtain⟨rfl,rfl⟩:=a1
   rw[hh]at a2
   obtain⟨rfl,rfl,_⟩:=a2
   refine⟨b,N,cs',ty,hb,setRow_heap w b cs cs' ty _ hh,by rw[hsz,a3,hes],aa,⟨aa,aa⟩,fun _=>.inr ⟨j,o',N,iT,hw',hb⟩,fun hf=>by simp[hw']at hf,fun i hi=>?_⟩
   obtain⟨ps,p1,p2,p3⟩:=hc i hi
   exact⟨ps,p1,p2.td e,p3⟩
  ·rw[fN hjk]at hj
   have hoj:=h.obj j oj hj x hx
   refine hoj.iE e (fun b1 N1 cs1 ty1 hb1 hx=>?_) (fun b1 N1 hb1 ho=>.inr ⟨j,oj,N1,by rw[fN hjk];exact hj,ho,hb1⟩)
   have:b1≠b:=fun e=>by
    subst e
    exact hjk (h.inj k j o oj b1 N N1 hk hj hw hb hb1).symm
   rw[hother b1 this];exact hx
 ·by_cases hjk:j=k
  ·subst hjk;rw[hb]at hbj;simp at hbj
  ·rw[fN hjk]at hj;exact h.dM j oj hj hbj
 ·intro j j' o1 o2 b1 N1 N2 h1 h2 hw1 hb1 hb2
  have f1:∃o1',look j st=some o1'/\o1'.wr=true:=by
   by_cases hj:j=k
   ·subst hj;exact⟨o,hk,hw⟩
   ·rw[fN hj]at h1;exact⟨o1,h1,hw1⟩
  have f2:∃o2',look j' st=some o2':=by
   by_cases hj:j'=k
   ·subst hj;exact⟨o,hk⟩
   ·rw[fN hj]at h2;exact⟨o2,h2⟩
  obtain⟨o1',h1',hw1'⟩:=f1
  obtain⟨o2',h2'⟩:=f2
  exact h.inj j j' o1' o2' b1 N1 N2 h1' h2' hw1' hb1 hb2
 ·intro b' hb' hm
  have hne:b'≠b:=fun e=>by
   subst e
   rcases h.new k o b' N hk hw hb with h1|h1
   ·omega
   ·exact hm h1
  rw[hother b' hne];exact h.block b' hb' hm
 ·intro j oj b1 N1 hj ho hb1
  by_cases hjk:j=k
  ·subst hjk;exact h.new j o b1 N1 hk hw hb1
  ·rw[fN hjk]at hj;exact h.new j oj b1 N1 hj ho hb1
theorem bu.freeze (h:bu c st D β w) {k:Nat} {o:az} (hk:look k st=some o):
  bu c (put k {o with wr:=false} st) D β w/\cX (aO c st β) w β (aO c (put k {o with wr:=false} st) β) w β:=by
 have hmm:∀b',aO c (put k {o with wr:=false} st) β b'->aO c st β b':=fun b' hm=>by
  rcases hm with hm|⟨j,oj,Nj,h1,h2,h3⟩
  ·exact .inl hm
  ·by_cases hj:j=k
   ·subst hj
    rw[iT]at h1
    grind
   ·rw[fN hj]at h1
    exact .inr ⟨j,oj,Nj,h1,h2,h3⟩
 have e:cX (aO c st β) w β (aO c (put k {o with wr:=false} st) β) w β:=⟨fun b' x hb' hx=>⟨hx,fun hm=>hb' (hmm b' hm)⟩,fun _ _ h=>h⟩
 refine⟨?_,e⟩
 refine {h with obj:=?_,dM:=fun j oj hj hbj=>?_,inj:=?_,new:=?_}
 ·intro j oj hj x hx
  by_cases hjk:j=k
  ·subst hjk
   rw[iT]at hj
   simp at hj
   subst hj
   obtain⟨b,N,cs,ty,a1,a2,a3,a4,a5,a6,a7,a8⟩:=h.obj j o hk x hx
   refine⟨b,N,cs,ty,a1,a2,a3,a4,a5,fun hf=>by grind,fun _ hm=>?_,fun i hi=>?_⟩
   ·by_cases hw:o.wr=true
    ·rcases hm with hm|⟨j',oj',Nj',h1,h2,h3⟩
     ·exact h.zB hk hw a1 hm
     ·by_cases hj:j'=j
      ·subst hj
       rw[iT]at h1
       grind
      ·rw[fN hj]at h1
       exact hj (h.inj j' j oj' o b Nj' N h1 hk h2 h3 a1)
    grind
   ·obtain⟨ps,p1,p2,p3⟩:=a8 i hi
    exact⟨ps,p1,p2.td e,p3⟩
  ·rw[fN hjk]at hj
   exact(h.obj j oj hj x hx).iE e (fun _ _ _ _ _ hx=>hx) (fun b1 N1 hb1 ho=>.inr ⟨j,oj,N1,by rw[fN hjk];omega,ho,hb1⟩)
 ·by_cases hjk:j=k
  ·subst hjk
   rw[iT]at hj
   simp at hj
   subst hj
   exact h.dM j o hk hbj
  ·rw[fN hjk]at hj;exact h.dM j oj hj hbj
 ·intro j j' o1 o2 b1 N1 N2 h1 h2 hw1 hb1 hb2
  have hjk:j≠k:=fun e=>by
   subst e
   rw[iT]at h1
   simp at h1
   subst h1;simp at hw1
  rw[fN hjk]at h1
  have f2:∃o2',look j' st=some o2':=by
   by_cases hj:j'=k
   ·subst hj;exact⟨o,hk⟩
   ·rw[fN hj]at h2;exact⟨o2,h2⟩
  obtain⟨o2',h2'⟩:=f2
  exact h.inj j j' o1 o2' b1 N1 N2 h1 h2' hw1 hb1 hb2
 ·intro j oj b1 N1 hj ho hb1
  have hjk:j≠k:=fun e=>by
   subst e
   rw[iT]at hj
   simp at hj
   subst hj;simp at ho
  rw[fN hjk]at hj
  exact h.new j oj b1 N1 hj ho hb1
theorem bu.drop (h:bu c st D β w) (k:Nat):bu c (cut k st) D β w/\cX (aO c st β) w β (aO c (cut k st) β) w β:=by
 have hl:∀j o,look j (cut k st)=some o->j≠k/\look j st=some o:=fun j o hj=>by
  rw[AI]at hj
  grind
 have hmm:∀b',aO c (cut k st) β b'->aO c st β b':=fun b' hm=>by
  rcases hm with hm|⟨j,oj,Nj,h1,h2,h3⟩
  ·exact .inl hm
  ·exact .inr ⟨j,oj,Nj,(hl j oj h1).2,h2,h3⟩
 have e:cX (aO c st β) w β (aO c (cut k st) β) w β:=⟨fun b' x hb' hx=>⟨hx,fun hm=>hb' (hmm b' hm)⟩,fun _ _ h=>h⟩
 refine⟨?_,e⟩
 refine {h with obj:=?_,dM:=fun j oj hj hbj=>h.dM j oj (hl j oj hj).2 hbj,inj:=?_,new:=?_}
 ·intro j oj hj x hx
  exact(h.obj j oj (hl j oj hj).2 x hx).iE e (fun _ _ _ _ _ hx=>hx) (fun b1 N1 hb1 ho=>.inr ⟨j,oj,N1,hj,ho,hb1⟩)
 ·exact fun j j' o1 o2 b1 N1 N2 h1 h2=>h.inj j j' o1 o2 b1 N1 N2 (hl _ _ h1).2 (hl _ _ h2).2
 ·exact fun j oj b1 N1 hj=>h.new j oj b1 N1 (hl _ _ hj).2
theorem bu.extend (h:bu c st D β w) {k K:Nat} {o o':az} (hk:look k st=some o) (hw:o.wr=true) (hK:¬D K) (hD:∀k,D k->D' k) (hDK:D' K) {b:Nat} {N:Nat×Nat}
  (hb:β k=some (b,N)) {cs cs':Array Value} {ty:TypeId}
  (hh:w.heap[b]?=some (.cells cs ty (0,0))) (hsz:cs'.size=cs.size) (hes:o'.es=o.es) (hw':o'.wr=true) (hl:o'.len<=N.1)
  (hc:∀i,i<o'.len->∃ps,ps.length=o'.es/\aQ (aO c st β) w (if o'.row then bt else β) [o'.f i] ps/\∀j v,ps[j]?=some v->cs'[i*o'.es+j]?=some v):
  bu c (put K o' (cut k st)) D' (β.set K (b,N.1,o'.len)) (w.setRow b cs')/\
   cX (aO c st β) w β (aO c (put K o' (cut k st)) (β.set K (b,N.1,o'.len))) (w.setRow b cs') (β.set K (b,N.1,o'.len)):=by
 have hbK:=h.fresh hK
 have hM:aO c st β b:=.inr ⟨k,o,N,hk,hw,hb⟩
 have hother:∀b',b'≠b->(w.setRow b cs').heap[b']?=w.heap[b']?:=fun b' hne=>setRow_other w b b' cs' hne
 have hl':∀j oj,look j (put K o' (cut k st))=some oj->(j=K/\oj=o')\/(j≠K/\j≠k/\look j st=some oj):=fun j oj hj=>by
  rw[yM]at hj
  split at hj
  ·simp at hj
   exact .inl ⟨by assumption,hj.symm⟩
  ·rw[AI]at hj
   split at hj
   ·simp at hj
   ·exact .inr ⟨by assumption,by assumption,hj⟩
 have hmm:∀b',aO c (put K o' (cut k st)) (β.set K (b,N.1,o'.len)) b'->aO c st β b':=fun b' hm=>by
  rcases hm with hm|⟨j,oj,Nj,h1,h2,h3⟩
  ·exact .inl hm
  ·rcases hl' j oj h1 with⟨rfl,rfl⟩|⟨g1,g2,g3⟩
   ·rw[aZ.gh]at h3
    simp at h3
    rw[<-h3.1];exact hM
   ·rw[aZ.gN _ _ g1]at h3
    exact .inr ⟨j,oj,Nj,g3,h2,h3⟩
 have e:cX (aO c st β) w β (aO c (put K o' (cut k st)) (β.set K (b,N.1,o'.len))) (w.setRow b cs') (β.set K (b,N.1,o'.len)):=by
  refine⟨fun b' x hb' hx=>⟨?_,fun hm=>hb' (hmm b' hm)⟩,fun j y hj=>?_⟩
  ·have:b'≠b:=fun e=>hb' (e▸hM)
   rw[hother b' this];exact hx
  ·have:j≠K:=fun e=>by subst e;rw[hbK]at hj;simp at hj
   rw[aZ.gN _ _ this];exact hj
 refine⟨?_,e⟩
 obtain⟨b1,N1,cs1,ty1,a1,a2,a3,a4,⟨a5,a5'⟩,_⟩:=h.obj k o hk _ hb
 rw[hb]at a1
 obtain⟨rfl,rfl⟩:=a1
 rw[hh]at a2
 obtain⟨rfl,rfl,_⟩:=a2
 refine {obj:=?_,dM:=fun j oj hj hbj=>?_,inj:=?_,dom:=?_,keep:=fun k x hk=>e.keys _ _ (h.keep k x hk),lt:=?_,os:=h.os,tape:=h.tape,output:=h.output,size:=by simpa using h.size,block:=?_,gB:=h.gB,new:=?_}
 ·intro j oj hj x hx
  rcases hl' j oj hj with⟨rfl,rfl⟩|⟨g1,g2,g3⟩
  ·refine⟨b,(N.1,oj.len),cs',ty,aZ.gh _ _ _,setRow_heap w b cs cs' ty _ hh,by rw[hsz,a3,hes],aa,⟨rfl,hl⟩,
    fun _=>.inr ⟨j,oj,_,iT,hw',aZ.gh _ _ _⟩,fun hf=>by simp[hw']at hf,fun i hi=>?_⟩
   obtain⟨ps,p1,p2,p3⟩:=hc i hi
   exact⟨ps,p1,p2.td e,p3⟩
  ·rw[aZ.gN _ _ g1]at hx
   refine(h.obj j oj g3 x hx).iE e (fun b1 N1 cs1 ty1 hb1 hx=>?_) (fun b1 N1 hb1 ho=>.inr ⟨j,oj,N1,hj,ho,?_⟩)
   ·have:b1≠b:=fun e=>by
     subst e
     exact g2 (h.inj k j o oj b1 N N1 hk g3 hw hb hb1).symm
    rw[hother b1 this];exact hx
   ·rw[aZ.gN _ _ g1];exact hb1
 ·rcases hl' j oj hj with⟨rfl,rfl⟩|⟨g1,g2,g3⟩
  ·rw[aZ.gh]at hbj;simp at hbj
  ·rw[aZ.gN _ _ g1]at hbj
   exact⟨(h.dM j oj g3 hbj).1,hD _ (h.dM j oj g3 hbj).2⟩
 ·intro j j' o1 o2 b1 N1 N2 h1 h2 hw1 hb1 hb2
  rcases hl' j o1 h1 with⟨rfl,rfl⟩|⟨g1,g2,g3⟩
  ·rcases hl' j' o2 h2 with⟨rfl,rfl⟩|⟨f1,f2,f3⟩
   ·rfl
   ·rw[aZ.gh]at hb1
    rw[aZ.gN _ _ f1]at hb2
    obtain⟨rfl,_⟩:=hb1
    exact absurd (h.inj k j' o o2 b N N2 hk f3 hw hb hb2).symm f2
  ·rcases hl' j' o2 h2 with⟨rfl,rfl⟩|⟨f1,f2,f3⟩
   ·rw[aZ.gh]at hb2
    rw[aZ.gN _ _ g1]at hb1
    obtain⟨rfl,_⟩:=hb2
    exact absurd (h.inj j k o1 o b N1 N g3 hk hw1 hb1 hb) g2
   ·rw[aZ.gN _ _ g1]at hb1
    rw[aZ.gN _ _ f1]at hb2
    exact h.inj j j' o1 o2 b1 N1 N2 g3 f3 hw1 hb1 hb2
 ·intro j y hj
  by_cases hjK:j=K
  ·rw[hjK];exact hDK
  ·rw[aZ.gN _ _ hjK]at hj
   exact hD _ (h.dom j y hj)
 ·intro j b1 N1 hj
  rw[setRow_size]
  by_cases hjK:j=K
  ·subst hjK
   rw[aZ.gh]at hj
   simp at hj
   rw[<-hj.1]
   exact h.lt k b N hb
  ·rw[aZ.gN _ _ hjK]at hj
   exact h.lt j b1 N1 hj
 ·intro b' hb' hm
  have hne:b'≠b:=fun e=>by
   subst e
   rcases h.new k o b' N hk hw hb with h1|h1
   ·omega
   ·exact hm h1
  rw[hother b' hne];exact h.block b' hb' hm
 ·intro j oj b1 N1 hj ho hb1
  rcases hl' j oj hj with⟨rfl,rfl⟩|⟨g1,g2,g3⟩
  ·rw[aZ.gh]at hb1
   simp at hb1
   rw[<-hb1.1]
   exact h.new k o b N hk hw hb
  ·rw[aZ.gN _ _ g1]at hb1
   exact h.new j oj b1 N1 g3 ho hb1
theorem bu.Cd (h:bu c st D β w) {k:Nat} {o o':az} (hk:look k st=some o) (ho:o'=o):bu c (put k o' st) D β w/\cX (aO c st β) w β (aO c (put k o' st) β) w β:=by
 subst ho
 have he:∀j,look j (put k o' st)=look j st:=fun j=>by
  by_cases hj:j=k
  ·subst hj;rw[iT,hk]
  ·rw[fN hj]
 have hM:aO c (put k o' st) β=aO c st β:=by
  funext b
  simp only[aO,he]
 refine⟨?_,by rw[hM];exact cX.refl _ _ _⟩
 refine {h with obj:=fun k o hk=>?_,dM:=fun k o hk=>h.dM k o (by grind),inj:=fun k k' o o' b N N' h1 h2=>?_,new:=fun k o b N h1=>?_}
 ·rw[hM];exact h.obj k o (by grind)
 ·exact h.inj k k' o o' b N N' (by grind) (by grind)
 ·exact h.new k o b N (by grind)
theorem bu.Ms (h:bu c st D β w) {K:Nat} (hK:¬D K) (hD:∀k,D k->D' k) (hDK:D' K) {o:az} (hr:o.row=true) (hl:o.len=0) (h0:0<o.es):
  bu c (put K o st) D' β w/\cX (aO c st β) w β (aO c (put K o st) β) w β:=by
 have hbK:=h.fresh hK
 have hl':∀j oj x,look j (put K o st)=some oj->β j=some x->look j st=some oj:=fun j oj x hj hb=>by
  have:j≠K:=fun e=>by grind
  rwa [fN this]at hj
 have hmm:∀b',aO c (put K o st) β b'->aO c st β b':=fun b' hm=>by
  rcases hm with hm|⟨j,oj,Nj,h1,h2,h3⟩
  ·exact .inl hm
  ·exact .inr ⟨j,oj,Nj,hl' j oj _ h1 h3,h2,h3⟩
 have e:cX (aO c st β) w β (aO c (put K o st) β) w β:=⟨fun b' x hb' hx=>⟨hx,fun hm=>hb' (hmm b' hm)⟩,fun _ _ h=>h⟩
 refine⟨?_,e⟩
 refine {h with obj:=?_,dM:=fun j oj hj hbj=>?_,inj:=?_,dom:=fun k x hk=>hD _ (h.dom k x hk),new:=?_}
 ·intro j oj hj x hx
  exact(h.obj j oj (hl' j oj x hj hx) x hx).iE e (fun _ _ _ _ _ hx=>hx) (fun b1 N1 hb1 ho=>.inr ⟨j,oj,N1,hj,ho,hb1⟩)
 ·by_cases hjK:j=K
  ·subst hjK
   rw[iT]at hj
   grind
  ·rw[fN hjK]at hj
   exact⟨(h.dM j oj hj hbj).1,hD _ (h.dM j oj hj hbj).2⟩
 ·exact fun j j' o1 o2 b1 N1 N2 h1 h2 hw hb1 hb2=>h.inj j j' o1 o2 b1 N1 N2 (hl' _ _ _ h1 hb1) (hl' _ _ _ h2 hb2) hw hb1 hb2
 ·exact fun j oj b1 N1 hj ho hb=>h.new j oj b1 N1 (hl' _ _ _ hj hb) ho hb
end change
end Go.Am
namespace Go.Am
open AV
structure bZ (P:Program) (t:TypeId) (ti:TI):Prop where
 dh:P.underlying t=some ti.desc
 info:∃i,P.info? t=some i/\i.size=ti.size/\i.bytes=ti.bytes
 zero:ti.zero.isTuple=false->∃i z,P.info? t=some i/\i.zero=some z/\∀M w β,bw M w β ti.zero z
def dJ (P:Program) (T:Types):Prop:=∀t ti,look t T=some ti->bZ P t ti
def kE (P:Program) (s:Sem Next) (w:World) (R:Value->World->Prop):Prop:=
 (∃x w',s.run P w=.ok (.value x) w'/\R x w')\/(∃w',s.run P w=.ok .skip w'/\R undef w')\/
 (∃f vs,s.run P w=.ok (.enter f vs) w/\Calls P f vs w fun e w'=>∃x,e=.returned x/\R x w')
def gL (ro:Option Nat):Fence:={fn:=fun _=>True,depth:=none,alive:=false,round:=ro}
theorem kE.wpIn {P:Program} {o:Oper} {a:Act} {w:World} {R:Value->World->Prop} {next:Act->World->Prop} {Q:Exit->Act->World->Prop} {ro:Option Nat} (hd:∀c,o.op≠.defer c)
  (h:kE P (execOp a.eval o) w R) (hn:∀x w',R x w'->next (a.put o.dst x) w'):o.wpIn (gL ro) 3 P a w next Q:=by
 refine⟨fun _ _=>trivial,?_⟩
 rw[Oper.semAt_eq _ _ _ hd]
 rcases h with⟨x,w',h1,h2⟩|⟨w',h1,h2⟩|⟨f,vs,h1,h2⟩
 ·rw[h1];exact hn x w' h2
 ·rw[h1];exact hn undef w' h2
 ·rw[h1]
  refine⟨fun _=>by decide,?_⟩
  refine CallsIn.mono (F:=gL ro) ((callsIn_wide (n:=3-1)).2 h2) fun e w' he=>?_
  grind
theorem kE.mono {P:Program} {s:Sem Next} {w:World} {R R':Value->World->Prop} (h:kE P s w R) (hr:∀x w',R x w'->R' x w'):kE P s w R':=by
 rcases h with⟨x,w',h1,h2⟩|⟨w',h1,h2⟩|⟨f,vs,h1,h2⟩
 ·exact .inl ⟨x,w',h1,hr _ _ h2⟩
 ·exact .inr (.inl ⟨w',h1,hr _ _ h2⟩)
 ·exact .inr (.inr ⟨f,vs,h1,h2.mono fun e w' ⟨x,he,hx⟩=>⟨x,he,hr _ _ hx⟩⟩)
def eW (c:Ctx) (st:aD) (D':Nat->Prop) (β:aZ) (w:World) (ct:List (Nat×Option az)) (v:AV) (x:Value) (w':World):Prop:=
 ∃β',bu c (cN ct st) D' β' w'/\cX (aO c st β) w β (aO c (cN ct st) β') w' β'/\bJ (aO c (cN ct st) β') w' β' v x
section inv
variable {M:Nat->Prop} {w:World} {β:aZ} {x:Value}
theorem bJ.bool {b:Bool} (h:bJ M w β (.bool b) x):x=.bool b:=by
 have:=h.cell rfl
 cases this;rfl
theorem bJ.int {k:IntKind} {n:Int} (h:bJ M w β (.int k n) x):x=.int k n:=by
 have:=h.cell rfl
 cases this;rfl
theorem bJ.func {f:FuncId} {caps:List AV} (h:bJ M w β (.func f caps) x):
  ∃vs:List Value,x=.func (.func f) #[] vs.toArray/\aQ M w β caps vs/\(caps.all fun v=>!v.isAgg&&!v.isTuple)=true:=by
 have:=h.cell rfl
 cases this with
 |func h1 h2 _=>grind
theorem bJ.str {s:List UInt8} (h:bJ M w β (.str s) x):x=.string ⟨s.toArray⟩:=by
 have:=h.cell rfl
 cases this;rfl
theorem bJ.ptr {k idx es off:Nat} {p:List Nat} (h:bJ M w β (.ptr k idx es off p) x):∃b N,β k=some (b,N)/\x=.pointer (some ⟨b,idx*es+off,none⟩):=by
 have:=h.cell rfl
 cases this with
 |ptr h1 _=>grind
theorem bJ.bn {v:AV} (h:bJ M w β (.bn v) x):∃b o ps,x=.pointer (some ⟨b,o,none⟩)/\aQ M w bt [v] ps/\gI M w b o ps:=by
 have:=h.cell rfl
 cases this with
 |bn h1 h2 _=>grind
theorem bJ.own {k es s n:Nat} (h:bJ M w β (.own k es s n) x):
  (∃b o cap,∃N:Nat×Nat,x=.slice (some ⟨b,o,none⟩) n cap/\β k=some (b,N)/\s+cap<=N.1/\s+n<=N.2/\n<=cap/\(cap=0\/o=s*es)/\0<es)\/(x=.slice none 0 0/\s=0/\n=0/\0<es):=by
 have:=h.cell rfl
 cases this with
 |own h1 h2 h3 h4 h5 _=>grind
 |own0 h5 _=>grind
theorem bJ.bS {n:Nat} {v:AV} (h:bJ M w β (.bS n v) x):∃base m,x=.slice base m n/\v.isAgg=false/\bw M w β v x:=by
 have:=h.cell rfl
 cases this with
 |bS ha h1 _=>exact⟨_,_,rfl,ha,.cz h1 ha⟩
theorem bJ.nil (h:bJ M w β .nil x):x=.slice none 0 0:=by
 have:=h.cell rfl
 cases this;rfl
theorem bJ.mag {N:Nat} (h:bJ M w β (.mag N) x):
  ∃base cap,x=.slice base (nl N) cap/\(N=0\/∃b o,base=some ⟨b,o,none⟩/\gI M w b o (th N))/\nl N<=cap:=by
 have:=h.cell rfl
 cases this with
 |mag h1 h2 _=>grind
theorem bJ.ak {es n:Nat} {f:Nat->AV} (h:bJ M w β (.ak es n f) x):
  ∃base cap,∃cf:Nat->List Value,x=.slice base n cap/\(n=0\/∃b o,base=some ⟨b,o,none⟩/\∀i,i<n->gI M w b (o+i*es) (cf i))/\0<es/\n<=cap/\
   (∀i,i<n->(cf i).length=es)/\∀i,i<n->aQ M w bt [f i] (cf i):=by
 have:=h.cell rfl
 cases this with
 |ak h1 h2 h3 h4 h5 _=>exact⟨_,_,_,rfl,h1,h2,h3,h4,h5⟩
theorem bw.bt {v:AV} (h:bw M w bt v x):bw M w β v x:=
 bw.mono (fun _ _ h h'=>⟨h',h⟩) (fun k y h=>by cases h) h
theorem bJ.one {v:AV} (h:bJ M w β v x) (hv:v.isTuple=false):bw M w β v x:=by rwa [bJ.DO hv]at h
end inv
theorem yO {N i:Nat} (h:i<nl N):(th N)[i]?=some (.int .u32 (aB N i)):=by simp[th,h]
theorem uc:nl 0=0:=by rfl
theorem sY {w:World} {b o:Nat} {cs:Array Value} {ty:TypeId} {fr:Nat×Nat} (h:w.heap[b]?=some (.cells cs ty fr)):w.cell? ⟨b,o,none⟩=cs[o]?:=by
 simp[World.cell?,h]
theorem gI.range {M:Nat->Prop} {w:World} {b o:Nat} {ps:List Value} (h:gI M w b o ps):w.rangeAt b o ps:=by
 obtain⟨cs,ty,fr,h1,_,h3⟩:=h
 intro j v hv
 rw[sY h1]
 grind
section load
variable {P:Program} {w:World}
theorem Jd {M:Nat->Prop} {β:aZ} {t:TypeId} {ti:TI} (ht:bZ P t ti) {b o:Nat} {ps:List Value} (hr:w.rangeAt b o ps) {v:AV} (hv:aQ M w β [v] ps)
  (hs:v.size=ti.size) (ha:v.isAgg=ko ti.desc):∃x,(Instr.loadAt t (.pointer (some ⟨b,o,none⟩))).run P w=.ok x w/\bw M w β v x:=by
 obtain⟨i,hi,his,_⟩:=ht.info
 have hlen:ps.length=ti.size:=by rw[hv.length];exact hs
 by_cases hagg:ko ti.desc=true
 ·refine⟨.agg ps.toArray,run_loadAt_mid (P:=P) w b o t ps ti.desc hr ht.dh ?_ (by grind),bw.xd hv (by grind)⟩
  cases hd:ti.desc<;>simp_all [ko,TypeDesc.isRow]
 ·have hva:v.isAgg=false:=by grind
  have h1:ps.length=1:=by
   rw[hlen,<-hs]
   cases v<;>first|rfl|cases hva
  obtain⟨x,rfl⟩:∃x,ps=[x]:=by
   match ps,h1 with
   |[x],_=>simp
  refine⟨x,?_,bw.cz hv hva⟩
  have hc:w.cell? ⟨b,o,none⟩=some x:=by simpa using hr 0 x (by simp)
  have hg:(isAgg t).run P w=.ok false w:=by
   unfold Go.isAgg
   rw[Sem.run_bind,run_underlying ht.dh w]
   cases hd:ti.desc<;>simp_all [ko]
  simp[Instr.loadAt,Instr.sureAddr,loadVar,Sem.run_bind,hg,hc]
def splice (cs:Array Value) (o:Nat) (ps:List Value):Array Value:=(cs.toList.take o++ps++cs.toList.drop (o+ps.length)).toArray
theorem wT {cs:Array Value} {o:Nat} {ps:List Value} (h:o+ps.length<=cs.size):(splice cs o ps).size=cs.size:=by
 simp[splice];omega
theorem mB {cs:Array Value} {o:Nat} {ps:List Value} (h:o+ps.length<=cs.size) (i:Nat):
  (splice cs o ps)[i]?=if o<=i/\i<o+ps.length then ps[i-o]? else cs[i]?:=by
 simp only[splice,List.getElem?_toArray,List.append_assoc]
 grind
theorem ach {M:Nat->Prop} {β:aZ} {t:TypeId} {ti:TI} (ht:bZ P t ti) {b o:Nat} {cs:Array Value} {ty:TypeId} (hh:w.heap[b]?=some (.cells cs ty (0,0)))
  {v:AV} {x:Value} (hv:bw M w β v x) (hs:v.size=ti.size) (hfit:o+ti.size<=cs.size):
  (Instr.storeAt t (.pointer (some ⟨b,o,none⟩)) x).run P w=.ok () (w.setRow b (splice cs o x.cells.toList)):=by
 obtain⟨i,hi,his,_⟩:=ht.info
 have hc:=hv.cells
 have hlen:x.cells.toList.length=ti.size:=by rw[hc.length];exact hs
 have hst:=run_storeCells_at P b o ty x.cells.toList 0 cs w hh aa hc.EA
 have hsz:x.cells.size=i.size:=by grind
 simp[Instr.storeAt,Instr.sureAddr,storeVar,sizeOf,typeInfo,hi,hsz,splice,hst]
end load
theorem Ee {cs:Array Value} {base:Nat} {pr cc po:List Value} (h:∀j v,(pr++(cc++po))[j]?=some v->cs[base+j]?=some v):
  ∀j v,cc[j]?=some v->cs[base+pr.length+j]?=some v:=by
 intro j v hv
 have:=h (pr.length+j) v (by grind)
 grind
section rel
variable {c:Ctx} {st:aD} {D:Nat->Prop} {β:aZ} {w:World}
theorem ag4 {M:Nat->Prop} {w:World} {β:aZ} {N:Nat} {cs:List Value} (h:aQ M w β [.mag N] cs):aQ M w bt [.mag N] cs:=by
 cases h with
 |mag h1 h2 h3=>cases h3;exact .mag h1 h2 .nil
mutual
theorem zm (h:bu c st D β w) {pre:aD} (hpre:∀k o,look k pre=some o->look k st=some o):∀{v u:AV} {cs:List Value},dj pre v=some u->aQ (aO c st β) w β [v] cs->
  aQ (aO c st β) w bt [u] cs/\u.isAgg=v.isAgg
 |.bool b,u,cs,hf,hv=>by simp only[dj,ax]at hf;subst hf;cases hv with|bool h=>cases h;exact⟨.bool .nil,rfl⟩
 |.int k n,u,cs,hf,hv=>by simp only[dj,ax]at hf;subst hf;cases hv with|int h=>cases h;exact⟨.int .nil,rfl⟩
 |.rat q n,u,cs,hf,hv=>by simp only[dj,ax]at hf;subst hf;cases hv with|rat h1 h2 h3 h=>cases h;exact⟨.rat h1 h2 h3 .nil,rfl⟩
 |.mag N,u,cs,hf,hv=>by simp only[dj,ax]at hf;subst hf;exact⟨ag4 hv,rfl⟩
 |.ak es n f,u,cs,hf,hv=>by simp only[dj,ax]at hf;subst hf;cases hv with|ak h1 h2 h3 h4 h5 h=>cases h;exact⟨.ak h1 h2 h3 h4 h5 .nil,rfl⟩
 |.eB b es n f,u,cs,hf,hv=>by simp only[dj,ax]at hf;subst hf;cases hv with|eB h0 h1 h2 h3 h4 h5 h=>cases h;exact⟨.eB h0 h1 h2 h3 h4 h5 .nil,rfl⟩
 |.nil,u,cs,hf,hv=>by simp only[dj,ax]at hf;subst hf;cases hv with|vnil h=>cases h;exact⟨.vnil .nil,rfl⟩
 |.str _,u,cs,hf,hv=>by simp only[dj,ax]at hf;subst hf;cases hv with|str h=>cases h;exact⟨.str .nil,rfl⟩
 |.void,u,cs,hf,hv=>by simp only[dj,ax]at hf;subst hf;cases hv with|void hx h=>cases h;exact⟨.void hx .nil,rfl⟩
 |.bn v,u,cs,hf,hv=>by simp only[dj,ax]at hf;subst hf;cases hv with|bn h1 h2 h=>cases h;exact⟨.bn h1 h2 .nil,rfl⟩
 |.ptr _ _ _ _ _,u,cs,hf,hv=>by simp[dj]at hf
 |.tuple _,u,cs,hf,hv=>by simp[dj]at hf
 |.bS c v,u,cs,hf,hv=>by
  simp only[dj]at hf
  cases hl:dj pre v with
  |none=>rw[hl]at hf;simp at hf
  |some m=>
   rw[hl]at hf
   simp only[ax]at hf
   subst hf
   cases hv with
   |bS ha h1 h2=>
    cases h2
    obtain⟨q1,q2⟩:=zm h hpre hl h1
    exact⟨.bS (by rw[q2];exact ha) q1 .nil,rfl⟩
 |.func f l,u,cs,hf,hv=>by
  simp only[dj]at hf
  cases hl:fh pre l with
  |none=>rw[hl]at hf;simp at hf
  |some m=>
   rw[hl]at hf
   simp only at hf
   split at hf
   ·rename_i hall
    simp only[ax]at hf
    subst hf
    cases hv with
    |func h1 h2 h3=>
     cases h3
     exact⟨.func (yD h hpre hl h1) hall .nil,rfl⟩
   ·simp at hf
 |.agg l,u,cs,hf,hv=>by
  simp only[dj]at hf
  cases hl:fh pre l with
  |none=>rw[hl]at hf;simp at hf
  |some m=>
   rw[hl]at hf
   simp only[ax]at hf
   subst hf
   cases hv with
   |agg h1 h2=>
    cases h2
    exact⟨.agg (yD h hpre hl h1) .nil,rfl⟩
 |.own k es s n,u,cs,hf,hv=>by
  simp only[dj]at hf
  cases hl:look k pre with
  |none=>rw[hl]at hf;simp at hf
  |some o=>
   rw[hl]at hf
   simp only at hf
   split at hf
   ·rename_i hc
    simp only[ax]at hf
    subst hf
    simp only[Bool.and_eq_true,Bool.not_eq_true',beq_iff_eq]at hc
    obtain⟨⟨hr,hw⟩,hes⟩:=hc
    cases hv with
    |own0 h5 h6=>
     cases h6
     exact⟨.ak (cf:=fun _=>[]) (.inl rfl) h5 aR (fun i hi=>aa) (fun i hi=>aa) .nil,rfl⟩
    |own h1 h2 h3 h4 h5 h6=>
     cases h6
     rename_i cap b N o'
     obtain⟨b1,N1,cs1,ty,a1,a2,a3,a4,⟨a5,a5'⟩,a6,a7,a8⟩:=h.obj k o (hpre k o hl) _ h1
     rw[h1]at a1
     simp only[ax,Prod.mk.injEq]at a1
     obtain⟨rfl,rfl⟩:=a1
     have hcf:∀i,∃ps:List Value,i<n->ps.length=es/\aQ (aO c st β) w bt [o.f (i+s)] ps/\∀j v,ps[j]?=some v->cs1[(i+s)*o.es+j]?=some v:=fun i=>by
      by_cases hi:i<n
      ·obtain⟨ps,p1,p2,p3⟩:=a8 (i+s) aa
       rw[hr]at p2
       exact⟨ps,fun _=>⟨aa,p2,p3⟩⟩
      ·exact⟨[],fun h=>absurd h hi⟩
     obtain⟨cf,hcf⟩:∃cf:Nat->List Value,∀i,i<n->(cf i).length=es/\aQ (aO c st β) w bt [o.f (i+s)] (cf i)/\∀j v,(cf i)[j]?=some v->cs1[(i+s)*o.es+j]?=some v:=
      ⟨fun i=>Classical.choose (hcf i),fun i=>Classical.choose_spec (hcf i)⟩
     refine⟨.ak (cf:=cf) ?_ h5 h3 (fun i hi=>(hcf i hi).1) (fun i hi=>(hcf i hi).2.1) .nil,rfl⟩
     rcases h4 with h4|h4
     ·left;omega
     ·right
      refine⟨b,o',rfl,fun i hi=>⟨cs1,ty,(0,0),a2,a7 hw,fun j v hv=>?_⟩⟩
      have:=(hcf i hi).2.2 j v hv
      rw[Nat.add_mul,hes]at this
      rw[h4,Nat.add_comm (s*es)];exact this
   ·simp at hf
theorem yD (h:bu c st D β w) {pre:aD} (hpre:∀k o,look k pre=some o->look k st=some o):∀{l m:List AV} {cs:List Value},fh pre l=some m->aQ (aO c st β) w β l cs->
  aQ (aO c st β) w bt m cs
 |[],m,cs,hf,hv=>by simp only[fh,ax]at hf;subst hf;cases hv;exact .nil
 |a::l,m,cs,hf,hv=>by
  simp only[fh]at hf
  obtain⟨c1,c2,rfl,h1,h2⟩:=hv.split
  cases ha:dj pre a with
  |none=>rw[ha]at hf;simp at hf
  |some b=>
   cases hl:fh pre l with
   |none=>rw[ha,hl]at hf;simp at hf
   |some m'=>
    rw[ha,hl]at hf
    simp only[ax]at hf
    subst hf
    exact(zm h hpre ha h1).1.cons (yD h hpre hl h2)
end
end rel
end Go.Am
namespace Go.Am
open AV
section ops
variable {P:Program} {T:Types} (hT:dJ P T)
variable {c:Ctx} {st pre:aD} {D D':Nat->Prop} {β:aZ} {w:World}
theorem dP (h:bu c st D β w) (hD:∀k,D k->D' k) {v:AV} {x:Value} (hv:bJ (aO c st β) w β v x):eW c st D' β w [] v x w:=
 ⟨β,h.lK hD,cX.refl _ _ _,hv⟩
theorem cO {s:Sem Next} {x:Value} {w':World} {R:Value->World->Prop} (hr:s.run P w=.ok (.value x) w') (h:R x w'):kE P s w R:=.inl ⟨x,w',hr,h⟩
theorem bu.elem (h:bu c st D β w) {k:Nat} {o:az} (hk:look k st=some o) {b:Nat} {N:Nat×Nat} (hb:β k=some (b,N)) {i:Nat} (hi:i<o.len):
  ∃cs ty ps,w.heap[b]?=some (.cells cs ty (0,0))/\ps.length=o.es/\aQ (aO c st β) w (if o.row then bt else β) [o.f i] ps/\
   (∀j v,ps[j]?=some v->cs[i*o.es+j]?=some v)/\(i+1)*o.es<=cs.size/\cs.size=N.1*o.es/\
   ∀i',i'<o.len->∃ps',ps'.length=o.es/\aQ (aO c st β) w (if o.row then bt else β) [o.f i'] ps'/\∀j v,ps'[j]?=some v->cs[i'*o.es+j]?=some v:=by
 obtain⟨b1,N1,cs,ty,a1,a2,a3,a4,⟨a5,a5'⟩,a6,a7,a8⟩:=h.obj k o hk _ hb
 rw[hb]at a1
 simp only[ax,Prod.mk.injEq]at a1
 obtain⟨rfl,rfl⟩:=a1
 obtain⟨ps,p1,p2,p3⟩:=a8 i hi
 exact⟨cs,ty,ps,a2,p1,p2,p3,by rw[a3];exact Nat.mul_le_mul_right _ aa,a3,a8⟩
theorem aQ.lift {M:Nat->Prop} {w:World} {β:aZ} {r:Bool} {l:List AV} {cs:List Value} (h:aQ M w (if r then bt else β) l cs):aQ M w β l cs:=by
 cases r
 ·exact h
 ·exact h.mono (fun _ _ h h'=>⟨h',h⟩) _ fun k x h=>by simp[bt]at h
include hT in
theorem KZ (h:bu c st D β w) (hpre:∀k o,look k pre=some o->look k st=some o) {t:TypeId} {ti:TI} (ht:look t T=some ti) {p:AV} {x:Value}
  (hp:bJ (aO c st β) w β p x) {r:eu} (hr:lE pre ti p=some r) (need:r.need):
  r.ct=[]/\∃y,(Instr.loadAt t x).run P w=.ok y w/\bw (aO c st β) w β r.val y:=by
 cases p with
 |bn v=>
  simp only[lE]at hr
  split at hr
  ·rename_i hc
   simp only[cu,ax]at hr
   subst hr
   simp only[Bool.and_eq_true,beq_iff_eq]at hc
   obtain⟨b,o,ps,rfl,h1,h2⟩:=hp.bn
   obtain⟨y,hy,hv⟩:=Jd (hT t ti ht) (w:=w) h2.range h1 hc.1.1 hc.1.2
   exact⟨rfl,y,hy,hv.bt⟩
  ·simp at hr
 |ptr k idx es off path=>
  simp only[lE]at hr
  cases hk:look k pre with
  |none=>rw[hk]at hr;simp at hr
  |some o=>
   rw[hk]at hr
   simp only at hr
   split at hr
   ·rename_i hc
    cases hg:(o.f idx).nS path with
    |none=>rw[hg]at hr;simp at hr
    |some v=>
     rw[hg]at hr
     simp only at hr
     split at hr
     ·rename_i hd
      simp only[ax]at hr
      subst hr
      simp only[Bool.and_eq_true,beq_iff_eq]at hc hd
      obtain⟨b,N,hb,rfl⟩:=hp.ptr
      obtain⟨cs,ty,ps,e1,e2,e3,e4,e5,e6,_⟩:=h.elem (hpre k o hk) hb need
      obtain⟨pr,cc,po,rfl,q1,q2,_⟩:=aQ.path path e3 v hg
      have hr:w.rangeAt b (idx*es+off) cc:=by
       intro j u hu
       rw[sY e1,<-hc.1,<-hc.2,<-q1]
       exact Ee e4 j u hu
      obtain⟨y,hy,hv⟩:=Jd (hT t ti ht) (w:=w) hr q2.lift hd.1.1 hd.1.2
      exact⟨rfl,y,hy,hv⟩
     ·simp at hr
   ·simp at hr
 |_=>simp[lE]at hr
mutual
theorem EZ {b:Bool}:∀{u v:AV},pC b u v=if b=true then u else v
 |.rat q n,v=>by cases v<;>cases b<;>simp[pC]
 |.agg l,.agg m=>by
  simp only[pC]
  split
  ·rename_i x hx
   rw[Hy hx];split<;>rfl
  ·rfl
 |.agg l,.rat .. |.agg l,.bool .. |.agg l,.int .. |.agg l,.mag .. |.agg l,.ak .. |.agg l,.eB .. |.agg l,.nil|.agg l,.void|.agg l,.str .. |.agg l,.bn .. |.agg l,.ptr .. |.agg l,.own .. |.agg l,.func .. |.agg l,.tuple .. |.agg l,.bS .. =>by simp[pC]
 |.bool ..,v|.int ..,v|.mag ..,v|.ak ..,v|.eB ..,v|.nil,v|.void,v|.str ..,v|.bn ..,v|.ptr ..,v|.own ..,v|.func ..,v|.tuple ..,v|.bS ..,v=>by simp[pC]
theorem Hy {b:Bool}:∀{l m x:List AV},qJ b l m=some x->x=if b=true then l else m
 |[],[],x,h=>by simp only[qJ,ax]at h;subst h;split<;>rfl
 |u::l,v::m,x,h=>by
  simp only[qJ]at h
  split at h
  ·rename_i y hy
   simp only[ax]at h
   subst h
   rw[Hy hy,EZ];split<;>rfl
  ·simp at h
 |[],_::_,x,h=>by simp[qJ]at h
 |_::_,[],x,h=>by simp[qJ]at h
end
theorem WH {b:Bool} {k:IntKind} {n:Int} {v:AV}:EL b k n v=if b=true then .int k n else v:=by
 unfold EL
 split
 ·split
  ·rename_i h
   have:∀{a c:IntKind},isKind a c=true->a=c:=fun {a c} h=>by cases a<;>cases c<;>first|rfl|cases h
   have:=this h
   subst this
   cases b<;>rfl
  ·rfl
 ·rfl
theorem afn {b x:Bool} {v:AV}:Ei b x v=if b=true then .bool x else v:=by
 unfold Ei
 split
 ·cases b<;>rfl
 ·rfl
theorem Rq {b:Bool} {es n:Nat} {h:Nat->AV} {v:AV}:Eg b es n h v=if b=true then .ak es n h else v:=by
 unfold Eg
 split
 ·split
  ·rename_i he
   have:=Nat.eq_of_beq_eq_true he
   subst this
   cases b<;>rfl
  ·rfl
 ·rfl
theorem Na {r:Bool} {idx:Nat} {u:AV} {f:Nat->AV}:Av r idx u f=fun j=>if j==idx then u else f j:=by
 unfold Av
 split
 ·funext j;exact EZ
 ·funext j;exact EZ
 ·funext j;exact Rq
 ·rfl
theorem Xc {z r:Bool} {idx:Nat} {u:AV} {f:Nat->AV}:EO z r idx u f=fun j=>if j==idx then u else f j:=by
 unfold EO
 split
 ·unfold I7
  split
  ·funext j;exact WH
  ·funext j;exact afn
  ·exact Na
 ·exact Na
include hT in
theorem aff (h:bu c st D β w) (hpre:∀k o,look k pre=some o->look k st=some o) (hD:∀k,D k->D' k) {t:TypeId} {ti:TI} (ht:look t T=some ti) {p v:AV} {x y:Value}
  (hp:bJ (aO c st β) w β p x) (hv:bJ (aO c st β) w β v y) {r:eu} {z:Bool} (hr:xh z pre ti p v=some r) (need:r.need):
  ∃w',(Instr.storeAt t x y).run P w=.ok () w'/\eW c st D' β w r.ct r.val undef w':=by
 cases p with
 |ptr k idx es off path=>
  simp only[xh,Xc]at hr
  cases hk:look k pre with
  |none=>rw[hk]at hr;simp at hr
  |some o=>
   rw[hk]at hr
   simp only at hr
   split at hr
   ·rename_i hc
    simp only[Bool.and_eq_true,beq_iff_eq,Bool.not_eq_true']at hc
    obtain⟨⟨⟨⟨hes,hwr⟩,hoff⟩,hsz⟩,htup⟩:=hc
    cases hg:(o.f idx).nS path with
    |none=>rw[hg]at hr;simp at hr
    |some u0=>
     cases hy:(if o.row then dj pre v else some v)with
     |none=>rw[hg,hy]at hr;simp at hr
     |some y'=>
      rw[hg,hy]at hr
      simp only at hr
      split at hr
      ·rename_i hd
       simp only[Bool.and_eq_true,beq_iff_eq]at hd
       obtain⟨⟨hd1,hd2⟩,hd3⟩:=hd
       cases hs:(o.f idx).rC path y' with
       |none=>rw[hs]at hr;simp at hr
       |some u=>
        rw[hs]at hr
        simp only[ax]at hr
        subst hr
        have hk':=hpre k o hk
        obtain⟨b,N,hb,rfl⟩:=hp.ptr
        obtain⟨cs,ty,ps,e1,e2,e3,e4,e5,e6,e7⟩:=h.elem hk' hb need
        obtain⟨pr,cc,po,rfl,q1,q2,q3⟩:=aQ.path path e3 u0 hg
        have hv1:=hv.one htup
        have hvc:=hv1.cells
        have hyc:aQ (aO c st β) w (if o.row then bt else β) [y'] y.cells.toList:=by
         cases hrow:o.row with
         |false=>rw[hrow]at hy;simp only[Bool.false_eq_true,if_false,ax]at hy;subst hy;simpa using hvc
         |true=>rw[hrow]at hy;simp only[if_true]at hy;simpa using(zm h hpre hy hvc).1
        have hlx:y.cells.toList.length=ti.size:=by rw[hvc.length];simp[sizes,hsz]
        have hlc:cc.length=ti.size:=by rw[q2.length];simp[sizes,hd1]
        have hbnd:idx*es+off+ti.size<=cs.size:=by
         have:(pr++(cc++po)).length=o.es:=e2
         simp only[List.length_append]at this
         rw[<-hes]
         rw[Nat.add_mul]at e5
         omega
        have hrun:=ach (hT t ti ht) (w:=w) e1 hv1 hsz hbnd
        refine⟨_,hrun,β,?_⟩
        have hq:=h.write (o':={o with f:=fun j=>if j==idx then u else o.f j}) hk' hwr hb e1 (wT (by rw[hlx];exact hbnd)) rfl hwr rfl (fun i hi=>?_)
        ·simp only[cN]
         exact⟨hq.1.lK hD,hq.2,[],by simp[undef],trivial⟩
        ·have hi':i<o.len:=hi
         by_cases hii:i=idx
         ·subst hii
          refine⟨pr++(y.cells.toList++po),?_,?_,fun j z hz=>?_⟩
          ·have:(pr++(cc++po)).length=o.es:=e2
           simp only[List.length_append]at this ⊢
           simp only at*
           omega
          ·simpa using q3 y' u _ hyc hs
          ·rw[mB (by rw[hlx];exact hbnd),hlx]
           have hlen:(pr++(y.cells.toList++po)).length=o.es:=by
            have:(pr++(cc++po)).length=o.es:=e2
            simp only[List.length_append]at this ⊢;omega
           have hj:j<o.es:=by rw[<-hlen];exact(List.getElem?_eq_some_iff.1 hz).1
           have hprl:pr.length=off:=by rw[q1,hoff]
           simp only[hes]at*
           by_cases hin:off<=j/\j<off+ti.size
           ·rw[if_pos aa]
            rw[List.getElem?_append_right aa,List.getElem?_append_left aa]at hz
            have:i*es+j-(i*es+off)=j-pr.length:=aa
            rw[this];exact hz
           ·rw[if_neg aa]
            apply e4
            rcases Nat.lt_or_ge j off with hlt|hge
            ·rw[List.getElem?_append_left aa]at hz ⊢;exact hz
            ·rw[List.getElem?_append_right aa,List.getElem?_append_right aa]at hz ⊢
             rw[hlx]at hz
             rw[hlc];exact hz
         ·obtain⟨ps',f1,f2,f3⟩:=e7 i hi'
          refine⟨ps',f1,?_,fun j z hz=>?_⟩
          ·have:(i==idx)=false:=by simpa using hii
           simpa [this]using f2
          ·rw[mB (by rw[hlx];exact hbnd),hlx]
           have hj:j<o.es:=by rw[<-f1];exact(List.getElem?_eq_some_iff.1 hz).1
           have hlen:(pr++(cc++po)).length=o.es:=e2
           simp only[List.length_append]at hlen
           have hne:¬(idx*es+off<=i*o.es+j/\i*o.es+j<idx*es+off+ti.size):=by
            rw[<-hes]
            rcases Nat.lt_or_gt_of_ne hii with hlt|hgt
            ·have:=Nat.mul_le_mul_right o.es (show i+1<=idx by omega)
             rw[Nat.add_mul]at this;omega
            ·have:=Nat.mul_le_mul_right o.es (show idx+1<=i by omega)
             rw[Nat.add_mul]at this;omega
           rw[if_neg hne];exact f3 j z hz
      ·simp at hr
   ·simp at hr
 |_=>simp[xh]at hr
end ops
end Go.Am
namespace Go.Am
open AV
section ops
variable {P:Program} {T:Types} (hT:dJ P T)
variable {c:Ctx} {st pre:aD} {D D':Nat->Prop} {β:aZ} {w:World}
theorem AM {k j:IntKind} (h:isKind k j=true):k=j:=by cases k<;>cases j<;>first|rfl|cases h
include hT in
theorem Kr {op:BinOp} {t t':TypeId} {x y:Operand} {a b:AV} {u v:Value} (ha:bJ (aO c st β) w β a u) (hb:bJ (aO c st β) w β b v) {r:eu} (hr:og T t' op a b=some r) (need:r.need):
  r.ct=[]/\∃z,(do eqGuard op t x y u v;binOp op t' u v:Sem Value).run P w=.ok z w/\bw (aO c st β) w β r.val z:=by
 have hint:∀k n,bw (aO c st β) w β (.int k n) (.int k n):=fun k n=>.cz (.int .nil) rfl
 have hbool:∀t,bw (aO c st β) w β (.bool t) (.bool t):=fun t=>.cz (.bool .nil) rfl
 cases a with
 |int k m=>
  cases b with
  |int j n=>
   have:=ha.int;subst this
   have:=hb.int;subst this
   simp only[eqGuard_at_int]
   cases op<;>simp only[og]at hr
   case shl=>
    simp only[ax]at hr;subst hr
    refine⟨rfl,_,?_,hint _ _⟩
    have need:0<=n:=need
    have:¬n<0:=aa
    simp[binOp,Op.shift,this]
   case shr=>
    simp only[ax]at hr;subst hr
    refine⟨rfl,_,?_,hint _ _⟩
    have need:0<=n:=need
    have:¬n<0:=aa
    simp[binOp,Op.shift,this]
   all_goals
    split at hr
    ·rename_i hk
     have:=AM hk
     subst this
     simp only[En,cu,ax,reduceCtorEq]at hr<;>subst hr<;>first
      |(refine⟨rfl,_,?_,hint _ _⟩;(first
        |(simp[binOp,Op.intArith];done)
        |(have need:n≠0:=need;simp only[binOp,ne_eq,not_true,if_false,Op.intDiv,need];rfl)
        |(simp only[binOp,ne_eq,not_true,if_false,Op.intBits];rfl)))
      |(refine⟨rfl,_,?_,hbool _⟩;(simp[binOp,Op.intCmp];done))
    ·simp at hr
  |_=>cases op<;>simp[og]at hr
 |bool m=>
  cases b with
  |bool n=>
   have:=ha.bool;subst this
   have:=hb.bool;subst this
   simp only[eqGuard_at_bool]
   simp only[og]at hr
   split at hr
   ·rename_i i1 i2 i3 ht
    have he:(Op.equal t' (.bool m) (.bool n)).run P w=.ok (m==n) w:=run_equal_bool w t' m n (hT _ _ ht).dh
    cases op<;>simp only[cu,ax,reduceCtorEq]at hr
    case eql=>subst hr;exact⟨rfl,_,by simp[binOp,he],hbool _⟩
    case neq=>subst hr;exact⟨rfl,_,by simp[binOp,he,bne],hbool _⟩
   ·simp at hr
  |_=>simp[og]at hr
 |_=>simp[og]at hr
include hT in
theorem ae9 (h:bu c st D β w) (hD:∀k,D k->D' k) {K:Nat} (hK:¬D K) (hDK:D' K) {t:TypeId} {ti:TI} (ht:look t T=some ti)
  (h1:ti.size≠0) (h2:ti.zero.size=ti.size) (h3:ti.zero.isTuple=false):
  ∃x w',(Instr.alloc t true (.tuple #[])).run P w=.ok x w'/\eW c st D' β w [(K,some ⟨false,true,ti.size,1,fun _=>ti.zero⟩)] (.ptr K 0 ti.size 0 []) x w':=by
 obtain⟨i,z,hi,hz,hrep⟩:=(hT t ti ht).zero h3
 have hc:=(hrep (aO c st β) w β).cells
 have hl:z.cells.toList.length=ti.size:=by rw[hc.length];simp[sizes,h2]
 refine⟨.pointer (some ⟨w.heap.size,0,none⟩),w.alloc (.cells z.cells t),by simp[Instr.alloc,zeroValue,typeInfo,hi,hz,newVar,newRow],β.set K (w.heap.size,1,1),?_⟩
 obtain⟨q1,q2⟩:=h.alloc (D':=D') (o:=⟨false,true,ti.size,1,fun _=>ti.zero⟩) hK hD hDK rfl (cs:=z.cells) (ty:=t) (N:=1) (by simp[<-hl]) (by simp;omega) (by simp)
  (fun i hi=>⟨z.cells.toList,hl,by simpa using hc,fun j v hv=>by
   have:i=0:=by simp at hi;omega
   subst this;simpa using hv⟩)
 refine⟨q1,q2,bw.bP (.cz ?_ rfl)⟩
 simp only[cN]
 have:=aQ.ptr (M:=aO c (put K ⟨false,true,ti.size,1,fun _=>ti.zero⟩ st) (β.set K (w.heap.size,1,1))) (w:=w.alloc (.cells z.cells t)) (β:=β.set K (w.heap.size,1,1)) (k:=K) (idx:=0) (es:=ti.size) (off:=0) (path:=[])
  (aZ.gh _ _ _) .nil
 simpa using this
theorem ZT (h:bu c st D β w) (hD:∀k,D k->D' k) {K:Nat} (hK:¬D K) (hDK:D' K) {t:TypeId} {v:AV} {x:Value} (hv:bw (aO c st β) w β v x) (h1:v.size≠0):
  ∃y w',(Instr.box t x).run P w=.ok y w'/\eW c st D' β w [(K,some ⟨false,true,v.size,1,fun _=>v⟩)] (.ptr K 0 v.size 0 []) y w':=by
 have hc:=hv.cells
 have hl:x.cells.toList.length=v.size:=by rw[hc.length];simp[sizes]
 refine⟨.pointer (some ⟨w.heap.size,0,none⟩),w.alloc (.cells x.cells t),by simp[Instr.box,newVar,newRow],β.set K (w.heap.size,1,1),?_⟩
 obtain⟨q1,q2⟩:=h.alloc (D':=D') (o:=⟨false,true,v.size,1,fun _=>v⟩) hK hD hDK rfl (cs:=x.cells) (ty:=t) (N:=1) (by simp[<-hl]) (by simp;omega) (by simp)
  (fun i hi=>⟨x.cells.toList,hl,by simpa using hc,fun j v hv=>by
   have:i=0:=by simp at hi;omega
   subst this;simpa using hv⟩)
 refine⟨q1,q2,bw.bP (.cz ?_ rfl)⟩
 simp only[cN]
 have:=aQ.ptr (M:=aO c (put K ⟨false,true,v.size,1,fun _=>v⟩ st) (β.set K (w.heap.size,1,1))) (w:=w.alloc (.cells x.cells t)) (β:=β.set K (w.heap.size,1,1)) (k:=K) (idx:=0) (es:=v.size) (off:=0) (path:=[])
  (aZ.gh _ _ _) .nil
 simpa using this
theorem Ag {M:Nat->Prop} {v:AV} {i off:Nat} {t:TypeId} {k:AV} (hk:jb T v i off t=some k) {cs:List Value} (hv:aQ M w β [v] cs):
  ∃ti pr cc po,look t T=some ti/\v.isAgg=true/\cs=pr++(cc++po)/\pr.length=off/\cc.length=ti.size/\aQ M w β [k] cc/\k.isAgg=ko ti.desc/\k.size=ti.size/\ti.size≠0/\v.kids[i]?=some k/\
   ∀a' c',aQ M w β [a'] c'->aQ M w β (v.kids.set i a') (pr++(c'++po)):=by
 unfold jb at hk
 cases hki:v.kids[i]? with
 |none=>rw[hki]at hk;simp at hk
 |some k'=>
  cases ht:look t T with
  |none=>rw[hki,ht]at hk;simp at hk
  |some ti=>
   rw[hki,ht]at hk
   simp only at hk
   split at hk
   ·rename_i hc
    simp only[ax]at hk
    subst hk
    simp only[Bool.and_eq_true,beq_iff_eq,bne_iff_ne,ne_eq]at hc
    obtain⟨pr,cc,po,rfl,h1,h2,h3⟩:=(hv.kids (DA hki)).at i k' hki
    refine⟨ti,pr,cc,po,rfl,DA hki,rfl,by rw[h1];exact hc.1.1.1,by rw[h2.length];simp[sizes,hc.1.1.2],h2,hc.1.2,hc.1.1.2,hc.2,rfl,h3⟩
   ·simp at hk
include hT in
theorem NB {M:Nat->Prop} {v:AV} {i off:Nat} {t:TypeId} {k:AV} (hk:jb T v i off t=some k) {x:Value} (hv:bw M w β v x):
  ∃cs y,x=.agg cs/\(part t cs off).run P w=.ok y w/\bw M w β k y:=by
 obtain⟨cs,h1,h2⟩:=hv
 obtain⟨ti,pr,cc,po,ht,hagg,rfl,hp,hl,hc,ha,hs,h0,_,_⟩:=Ag hk h1
 rcases h2 with⟨_,rfl⟩|⟨h2,_⟩
 ·have htk:=hT t ti ht
  obtain⟨inf,hi,his,_⟩:=htk.info
  by_cases hag:ko ti.desc=true
  ·have hg:(isAgg t).run P w=.ok true w:=by
    unfold Go.isAgg
    rw[Sem.run_bind,run_underlying htk.dh w]
    cases hd:ti.desc<;>simp_all [ko]
   refine⟨_,.agg cc.toArray,rfl,?_,bw.xd hc (by rw[ha,hag])⟩
   simp only[part,Sem.run_bind,hg,Result.andThen_ok,if_true,sizeOf,typeInfo,run_program,hi,Sem.run_pure,his]
   congr 2
   apply Array.ext'
   simp only[Array.toList_extract,List.extract_eq_take_drop]
   rw[List.drop_append_of_le_length aa,<-hp]
   simp only[List.drop_length,List.nil_append]
   rw[List.take_append_of_le_length aa]
   rw[List.take_of_length_le aa]
  ·have hag':k.isAgg=false:=by rw[ha];simpa using hag
   have hg:(isAgg t).run P w=.ok false w:=by
    unfold Go.isAgg
    rw[Sem.run_bind,run_underlying htk.dh w]
    cases hd:ti.desc<;>simp_all [ko]
   have h1l:cc.length=1:=by
    rw[hl,<-hs]
    cases k<;>first|rfl|cases hag'
   obtain⟨y,rfl⟩:∃y,cc=[y]:=by
    match cc,h1l with
    |[y],_=>exact⟨y,rfl⟩
   refine⟨_,y,rfl,?_,bw.cz hc hag'⟩
   have:(pr++([y]++po)).toArray[off]?=some y:=by
    simp[<-hp]
   simp only[part,Sem.run_bind,hg,Result.andThen_ok,Bool.false_eq_true,if_false,this,Sem.run_pure]
 ·rw[hagg]at h2;simp at h2
include hT in
theorem aeC {s:TypeId} {ti:TI} (hs:look s T=some ti) {v:AV} {x:Value} (hv:bw (aO c st β) w β v x) {i:Nat} {fd:Field} (hf:nr ti.desc i=some fd) {k:AV}
  (hk:jb T v i fd.offset fd.type=some k):∃y,(Instr.field s x i).run P w=.ok y w/\bw (aO c st β) w β k y:=by
 obtain⟨cs,y,rfl,hy,hr⟩:=NB hT hk hv
 refine⟨y,?_,hr⟩
 cases hd:ti.desc with
 |struct fs=>
  rw[hd]at hf
  simp only[nr]at hf
  simp only[Instr.field,Sem.run_bind,run_underlying (hd▸(hT s ti hs).dh) w,Result.andThen_ok,hf,asAgg,Sem.run_pure,hy]
 |_=>rw[hd]at hf;simp[nr]at hf
include hT in
theorem acB {t:TypeId} {ti ei:TI} (hs:look t T=some ti) {n:Nat} {e:TypeId} (hd:ti.desc=.array n e) (he:look e T=some ei) {v:AV} {x:Value} (hv:bw (aO c st β) w β v x)
  {i:Int} {kd:IntKind} {k:AV} (hk:jb T v i.toNat (i.toNat*ei.size) e=some k) (h0:0<=i) (h1:i<n):∃y,(Instr.index t x (.int kd i)).run P w=.ok y w/\bw (aO c st β) w β k y:=by
 obtain⟨cs,y,rfl,hy,hr⟩:=NB hT hk hv
 refine⟨y,?_,hr⟩
 obtain⟨inf,hi,his,_⟩:=(hT e ei he).info
 simp only[Instr.index,Sem.run_bind,asIntOf,Sem.run_pure,Result.andThen_ok,run_underlying (hd▸(hT t ti hs).dh) w,if_pos (And.intro h0 h1),sizeOf,typeInfo,run_program,hi,his,hy]
include hT in
theorem Hl {s:TypeId} {ti fi:TI} (hs:look s T=some ti) {i:Nat} {fd:Field} (hf:nr ti.desc i=some fd) (ht:look fd.type T=some fi) (h0:fi.size≠0) {b o:Nat}:
  (Instr.fieldAt s (.pointer (some ⟨b,o,none⟩)) i).run P w=.ok (.pointer (some ⟨b,o+fd.offset,none⟩)) w:=by
 obtain⟨inf,hi,his,_⟩:=(hT _ fi ht).info
 cases hd:ti.desc with
 |struct fs=>
  rw[hd]at hf
  simp only[nr]at hf
  have hne:¬inf.size=0:=aa
  simp only[Instr.fieldAt,Sem.run_bind,run_underlying (hd▸(hT s ti hs).dh) w,Result.andThen_ok,hf,Instr.sureAddr,Sem.run_pure,fieldPlace,sizeOf,typeInfo,run_program,hi,if_neg hne,Addr.add_mid]
 |_=>rw[hd]at hf;simp[nr]at hf
theorem gI.part {M:Nat->Prop} {b o:Nat} {pr cc po:List Value} (h:gI M w b o (pr++(cc++po))):gI M w b (o+pr.length) cc:=by
 obtain⟨cs,ty,fr,h1,h2,h3⟩:=h
 exact⟨cs,ty,fr,h1,h2,Ee h3⟩
theorem Fs {M:Nat->Prop} {v:AV} {i off:Nat} {t:TypeId} {k:AV} (hk:jb T v i off t=some k) {x:Value} (hv:bJ M w β (.bn v) x):
  ∃b o,x=.pointer (some ⟨b,o,none⟩)/\bw M w β (.bn k) (.pointer (some ⟨b,o+off,none⟩)):=by
 obtain⟨b,o,ps,rfl,h1,h2⟩:=hv.bn
 obtain⟨ti,pr,cc,po,_,_,rfl,hp,_,hc,_⟩:=Ag hk h1
 refine⟨b,o,rfl,.cz (.bn hc ?_ .nil) rfl⟩
 rw[<-hp];exact h2.part
include hT in
theorem Ko {t:TypeId} {ti ei:TI} (hs:look t T=some ti) {n:Nat} {e:TypeId} (hd:ti.desc=.array n e) (he:look e T=some ei) {b o:Nat} {kd:IntKind} {i:Int} (h0:0<=i) (h1:i<n):
  (Instr.indexAt t (.pointer (some ⟨b,o,none⟩)) (.int kd i)).run P w=.ok (.pointer (some ⟨b,o+i.toNat*ei.size,none⟩)) w:=by
 obtain⟨inf,hi,his,_⟩:=(hT e ei he).info
 simp only[Instr.indexAt,Sem.run_bind,asIntOf,Sem.run_pure,Result.andThen_ok,run_underlying (hd▸(hT t ti hs).dh) w,Instr.sureAddr,if_pos (And.intro h0 h1),sizeOf,typeInfo,run_program,hi,his,Addr.add_mid]
include hT in
theorem xk {t:TypeId} {ti ei:TI} (hs:look t T=some ti) {e:TypeId} (hd:ti.desc=.slice e) (he:look e T=some ei) {b o n cap:Nat} {kd:IntKind} {i:Int} (h0:0<=i) (h1:i<n):
  (Instr.indexAt t (.slice (some ⟨b,o,none⟩) n cap) (.int kd i)).run P w=.ok (.pointer (some ⟨b,o+i.toNat*ei.size,none⟩)) w:=by
 obtain⟨inf,hi,his,_⟩:=(hT e ei he).info
 simp only[Instr.indexAt,Sem.run_bind,asIntOf,Sem.run_pure,Result.andThen_ok,run_underlying (hd▸(hT t ti hs).dh) w,if_pos (And.intro h0 h1),sizeOf,typeInfo,run_program,hi,his,Addr.add_mid]
theorem Xu (h:bu c st D β w) {k:Nat} {o:az} (hk:look k st=some o) {es s n b off cap:Nat} {N:Nat×Nat} (hb:β k=some (b,N)) (h3:s+n<=N.2) (h5:cap=0\/off=s*es) (hnc:n<=cap)
  {i:Nat} (hi:i<n):i+s<o.len/\off+i*es=(i+s)*es:=by
 obtain⟨b1,N1,cs,ty,a1,a2,a3,a4,⟨a5,a5'⟩,a6,a7,a8⟩:=h.obj k o hk _ hb
 rw[hb]at a1
 simp only[ax,Prod.mk.injEq]at a1
 obtain⟨rfl,rfl⟩:=a1
 refine⟨aa,?_⟩
 rcases h5 with h5|h5
 ·omega
 ·rw[h5,Nat.add_mul,Nat.add_comm]
include hT in
theorem RQ (h:bu c st D β w) (hpre:∀k o,look k pre=some o->look k st=some o) {t:TypeId} {ti ei:TI} (hs:look t T=some ti) {e:TypeId} (hd:ti.desc=.slice e) (he:look e T=some ei)
  {v:AV} {x:Value} (hv:bJ (aO c st β) w β v x) {kd:IntKind} {i:Int} (h0:0<=i) {r:AV} {need:Prop} (hr:elemAt pre ei.size v i.toNat=some (r,need)) (hn:need):
  ∃y,(Instr.indexAt t x (.int kd i)).run P w=.ok y w/\bw (aO c st β) w β r y:=by
 cases v with
 |ak es n f=>
  simp only[elemAt]at hr
  split at hr
  ·rename_i hc
   simp only[ax,Prod.mk.injEq]at hr
   obtain⟨rfl,rfl⟩:=hr
   have hc':es=ei.size:=by simpa using hc
   obtain⟨base,cap,cf,rfl,h1,h2,h3,h4,h5⟩:=hv.ak
   rcases h1 with h1|⟨b,o,rfl,h1⟩
   ·omega
   ·refine⟨_,xk hT hs hd he h0 aa,.cz (.bn (h5 _ hn) ?_ .nil) rfl⟩
    rw[<-hc'];exact h1 _ hn
  ·simp at hr
 |mag N=>
  simp only[elemAt]at hr
  split at hr
  ·rename_i hc
   simp only[ax,Prod.mk.injEq]at hr
   obtain⟨rfl,rfl⟩:=hr
   have hc':ei.size=1:=by simpa using hc
   obtain⟨base,cap,rfl,h1,h2⟩:=hv.mag
   rcases h1 with h1|⟨b,o,rfl,h1⟩
   ·subst h1;simp[uc]at hn
   ·refine⟨_,xk hT hs hd he h0 aa,.cz (.bn (.int .nil) ?_ .nil) rfl⟩
    obtain⟨cs,ty,fr,g1,g2,g3⟩:=h1
    refine⟨cs,ty,fr,g1,g2,fun j u hu=>?_⟩
    have hj:j=0:=by have:=(List.getElem?_eq_some_iff.1 hu).1;simp at this;exact this
    subst hj
    simp only[List.getElem?_cons_zero,ax]at hu
    subst hu
    have:=g3 _ _ (yO hn)
    simpa [hc']using this
  ·simp at hr
 |own k es s n=>
  simp only[elemAt]at hr
  split at hr
  ·rename_i hc
   have hc':es=ei.size:=by simpa using hc
   cases hk:look k pre with
   |none=>rw[hk]at hr;simp at hr
   |some o=>
    rw[hk]at hr
    simp only at hr
    rcases hv.own with g|⟨_,_,hn0,_⟩
    rotate_left
    ·exfalso
     split at hr
     ·simp only[ax,Prod.mk.injEq]at hr
      obtain⟨rfl,rfl⟩:=hr
      omega
     ·simp only[ax,Prod.mk.injEq]at hr
      obtain⟨rfl,rfl⟩:=hr
      omega
    obtain⟨b,off,cap,N,rfl,g1,g2,g3,g4,g5,g6⟩:=g
    have hk':=hpre k o hk
    split at hr
    ·rename_i hc2
     simp only[ax,Prod.mk.injEq]at hr
     obtain⟨rfl,rfl⟩:=hr
     simp only[Bool.and_eq_true,beq_iff_eq,Bool.not_eq_true']at hc2
     obtain⟨q1,q2⟩:=Xu h hk' g1 g3 g5 g4 hn
     obtain⟨cs,ty,ps,e1,e2,e3,e4,e5,e6,_⟩:=h.elem hk' g1 q1
     obtain⟨b1,N1,cs1,ty1,a1,a2,a3,a4,a5,a6,a7,a8⟩:=h.obj k o hk' _ g1
     rw[g1]at a1
     simp only[ax,Prod.mk.injEq]at a1
     obtain⟨rfl,rfl⟩:=a1
     rw[hc2.1.1]at e3
     refine⟨_,xk hT hs hd he h0 aa,.cz (.bn e3 ⟨cs,ty,(0,0),e1,a7 hc2.1.2,?_⟩ .nil) rfl⟩
     rw[<-hc',q2,<-hc2.2];exact e4
    ·simp only[ax,Prod.mk.injEq]at hr
     obtain⟨rfl,rfl⟩:=hr
     refine⟨_,xk hT hs hd he h0 aa,.cz ?_ rfl⟩
     have hoff:off+i.toNat*ei.size=(i.toNat+s)*ei.size+0:=by
      rcases g5 with g5|g5
      ·omega
      ·rw[g5,hc',Nat.add_mul];omega
     rw[hoff]
     exact .ptr g1 .nil
  ·simp at hr
 |_=>simp[elemAt]at hr
end ops
end Go.Am
namespace Go.Am
open AV
section ops
variable {P:Program} {T:Types} (hT:dJ P T)
variable {c:Ctx} {st pre:aD} {D D':Nat->Prop} {β:aZ} {w:World}
theorem NJ (cells:Array Value) (off:Nat) (vs:List Value) (h:off+vs.length<=cells.size):
  ((vs.toArray.zipIdx).foldl (fun cs (x:Value×Nat)=>match x with|(v,j)=>cs.setIfInBounds (off+j) v) cells)=splice cells off vs:=by
 have key:∀(ws:List Value) (k:Nat) (cs:Array Value),off+k+ws.length<=cs.size->
   (ws.zipIdx k).foldl (fun cs (x:Value×Nat)=>match x with|(v,j)=>cs.setIfInBounds (off+j) v) cs=splice cs (off+k) ws:=by
  intro ws
  induction ws with
  |nil=>intro k cs hl;apply Array.ext';simp[splice]
  |cons v ws ih=>
   intro k cs hl
   simp only[List.length_cons]at hl
   rw[List.zipIdx_cons,List.foldl_cons]
   rw[ih (k+1) _ (by simp;omega)]
   apply Array.ext_getElem?
   intro i
   rw[mB (by simp;omega),mB (by simp;omega)]
   simp only[List.length_cons,Array.getElem?_setIfInBounds]
   by_cases h1:i=off+k
   ·subst h1
    rw[if_neg aa,if_pos rfl,if_pos aa,if_pos aa]
    simp
   ·by_cases h2:off+(k+1)<=i/\i<off+(k+1)+ws.length
    ·rw[if_pos h2,if_pos aa]
     have:i-(off+k)=(i-(off+(k+1)))+1:=aa
     rw[this];simp
    ·rw[if_neg h2,if_neg aa,if_neg aa]
 have:=key vs 0 cells (by simpa using h)
 simp only[Nat.add_zero]at this
 rw[<-Array.foldl_toList]
 simpa using this
theorem FM {d:TypeDesc} {i off:Nat} {t:TypeId} (h:placeOf T d i=some (off,t)):
  (∃fs f,d=.struct fs/\fs[i]?=some f/\f.offset=off/\f.type=t)\/(∃n ti,d=.array n t/\look t T=some ti/\i*ti.size=off):=by
 cases d with
 |struct fs=>
  simp only[placeOf]at h
  cases hf:fs[i]? with
  |none=>rw[hf]at h;simp at h
  |some f=>
   rw[hf]at h
   simp only[ax,Prod.mk.injEq]at h
   exact .inl ⟨fs,f,rfl,hf,h.1,h.2⟩
 |array n e=>
  simp only[placeOf]at h
  cases hf:look e T with
  |none=>rw[hf]at h;simp at h
  |some ti=>
   rw[hf]at h
   simp only[ax,Prod.mk.injEq]at h
   obtain⟨h1,rfl⟩:=h
   exact .inr ⟨n,ti,rfl,hf,h1⟩
 |_=>simp[placeOf]at h
def tT (M:Nat->Prop) (w:World) (β:aZ):List (Nat×AV)->List (Nat×Value)->Prop
 |[],[]=>True
 |(i,a)::l,(j,x)::xs=>i=j/\bJ M w β a x/\tT M w β l xs
 |_,_=>False
theorem Oz {M:Nat->Prop} {d:TypeDesc} {place:Nat->Option (Nat×Nat)} (hp:∀i off t ti,placeOf T d i=some (off,t)->look t T=some ti->place i=some (off,ti.size)):
  ∀{ps:List (Nat×AV)} {xs:List (Nat×Value)} {l m:List AV} {cells:Array Value},qo T d l ps=some m->tT M w β ps xs->aQ M w β l cells.toList->
   ∃cells',Instr.fill place cells xs=some cells'/\aQ M w β m cells'.toList
 |[],[],l,m,cells,hs,_,hc=>by
  simp only[qo,ax]at hs
  subst hs
  exact⟨cells,by rw[Instr.fill.eq_1],hc⟩
 |(i,a)::ps,(j,x)::xs,l,m,cells,hs,hx,hc=>by
  obtain⟨rfl,hx,hxs⟩:=hx
  simp only[qo]at hs
  cases hpl:placeOf T d i with
  |none=>rw[hpl]at hs;simp at hs
  |some q=>
   obtain⟨off,t⟩:=q
   rw[hpl]at hs
   simp only at hs
   cases hk:jb T (.agg l) i off t with
   |none=>rw[hk]at hs;simp at hs
   |some k=>
    rw[hk]at hs
    simp only at hs
    split at hs
    ·rename_i hcond
     simp only[Bool.and_eq_true,beq_iff_eq,Bool.not_eq_true']at hcond
     obtain⟨⟨hsz,hag⟩,htup⟩:=hcond
     obtain⟨ti,pr,cc,po,ht,_,hcs,hpr,hcl,_,_,hks,h0,_,hset⟩:=Ag (cs:=cells.toList) hk (by simpa using aQ.agg hc .nil)
     have hx1:=hx.one htup
     have hxc:=hx1.cells
     have hxl:x.cells.toList.length=ti.size:=by rw[hxc.length];simp[sizes];omega
     have hbound:off+x.cells.toList.length<=cells.size:=by
      have:cells.toList.length=pr.length+(cc.length+po.length):=by rw[hcs];simp
      rw[Array.length_toList]at this
      omega
     have hspl:(splice cells off x.cells.toList).toList=pr++(x.cells.toList++po):=by
      simp only[splice,hcs]
      rw[hxl,<-hpr,<-hcl]
      simp
     have:=hset a _ hxc
     obtain⟨cells',hf,hr⟩:=Oz hp (l:=l.set i a) (cells:=splice cells off x.cells.toList) hs hxs (by rw[hspl];simpa [AV.kids]using this)
     refine⟨cells',?_,hr⟩
     have hxs':x.cells.size=ti.size:=by rw[<-Array.length_toList,hxl]
     have hb':¬cells.size<off+x.cells.size:=by rw[<-Array.length_toList]at hbound;rw[Array.length_toList]at hbound;simp only[Array.length_toList]at hbound;omega
     rw[Instr.fill.eq_2,hp i off t ti hpl ht]
     simp only[hxs',ne_eq,not_true,decide_false,Bool.false_or,bz,gt_iff_lt]
     rw[hxs']at hb'
     rw[if_neg hb']
     have:=NJ cells off x.cells.toList hbound
     rw[Array.toArray_toList]at this
     rw[this];exact hf
    ·simp at hs
 |[],_::_,_,_,_,_,hx,_=>hx.elim
 |_::_,[],_,_,_,_,hx,_=>hx.elim
include hT in
theorem Ka:∀(fs:List Field),(fs.all fun f=>(look f.type T).isSome)=true->
  ∃places:List (Nat×Nat),fs.mapM (fun f=>(P.info? f.type).map fun i=>(f.offset,i.size))=some places/\
   ∀(i:Nat) (f:Field) (ti:TI),fs[i]?=some f->look f.type T=some ti->places[i]?=some (f.offset,ti.size)
 |[],_=>⟨[],rfl,fun i f ti h _=>by simp at h⟩
 |f::fs,h=>by
  simp only[List.all_cons,Bool.and_eq_true]at h
  obtain⟨places,h1,h2⟩:=Ka fs h.2
  obtain⟨ti,ht⟩:=Option.isSome_iff_exists.1 h.1
  obtain⟨inf,hi,his,_⟩:=(hT _ _ ht).info
  refine⟨(f.offset,inf.size)::places,by simp[hi,h1],fun i g tj hg hj=>?_⟩
  cases i with
  |zero=>
   simp only[List.getElem?_cons_zero,ax]at hg ⊢
   subst hg
   rw[ht]at hj
   simp only[ax]at hj
   rw[his,hj]
  |succ i=>simpa using h2 i g tj (by simpa using hg) hj
include hT in
theorem ahw {M:Nat->Prop} {t:TypeId} {ti:TI} (ht:look t T=some ti) {ps:List (Nat×AV)} {xs:List (Nat×Value)} (hx:tT M w β ps xs) {m:List AV}
  (ha:ti.zero.isAgg=true) (hs:qo T ti.desc ti.zero.kids ps=some m) (hk:By T ti.desc=true):
  ∃y,(Instr.build t xs.toArray).run P w=.ok y w/\bw M w β (.agg m) y:=by
 have hnt:ti.zero.isTuple=false:=by cases hz:ti.zero<;>rw[hz]at ha<;>first|rfl|cases ha
 obtain⟨inf,z,hi,hz,hrep⟩:=(hT t ti ht).zero hnt
 have hzc:=((hrep M w β).cells).kids ha
 have hu:=(hT t ti ht).dh
 have hfin:∀place:Nat->Option (Nat×Nat),(∀i off t' ti',placeOf T ti.desc i=some (off,t')->look t' T=some ti'->place i=some (off,ti'.size))->
   (∀cells,Instr.fill place z.cells xs=some cells->P.built t xs=some cells)->∃y,(Instr.build t xs.toArray).run P w=.ok y w/\bw M w β (.agg m) y:=by
  intro place hp hb
  obtain⟨cells',hf,hr⟩:=Oz hp hs hx hzc
  exact⟨.agg cells',run_build w t xs.toArray cells' (by simpa using hb cells' hf),by simpa using bw.xd (v:=.agg m) (by simpa using aQ.agg hr .nil) rfl⟩
 cases hd:ti.desc with
 |struct fs=>
  rw[hd]at hk
  obtain⟨places,h1,h2⟩:=Ka hT fs.toList hk
  refine hfin (fun i=>places.toArray[i]?) (fun i off t' ti' hp ht'=>?_) (fun cells hf=>?_)
  ·rcases FM hp with⟨fs',f,hd',hf,rfl,rfl⟩|⟨n,tj,hd',_⟩
   ·rw[hd]at hd'
    simp only[TypeDesc.struct.injEq]at hd'
    subst hd'
    simpa using h2 i f ti' (by simpa using hf) ht'
   ·rw[hd]at hd';simp at hd'
  ·unfold Program.built
   rw[hi,hu,hd]
   simp only[hz,h1]
   exact hf
 |array n e=>
  rw[hd]at hk
  obtain⟨ei,he⟩:=Option.isSome_iff_exists.1 hk
  obtain⟨ie,hie,hies,_⟩:=(hT _ _ he).info
  refine hfin (fun i=>some (i*ie.size,ie.size)) (fun i off t' ti' hp ht'=>?_) (fun cells hf=>?_)
  ·rcases FM hp with⟨fs',f,hd',_⟩|⟨n',tj,hd',hl,ho⟩
   ·rw[hd]at hd';simp at hd'
   ·rw[hd]at hd'
    simp only[TypeDesc.array.injEq]at hd'
    obtain⟨_,rfl⟩:=hd'
    rw[he]at hl ht'
    simp only[ax]at hl ht'
    subst hl;subst ht'
    rw[hies,<-ho]
  ·unfold Program.built
   rw[hi,hu,hd]
   simp only[hz,hie]
   exact hf
 |_=>rw[hd]at hk;simp[By]at hk
theorem cH.parts {M:Nat->Prop} {ρ:Operand->Option AV} {ev:Operand->Value} (hρ:∀x v,ρ x=some v->bJ M w β v (ev x)):
  ∀{ps:List (Nat×Operand)} {l:List (Nat×AV)},jS ρ ps=some l->tT M w β l (ps.map fun p=>(p.1,ev p.2))
 |[],l,h=>by simp only[jS,ax]at h;subst h;exact trivial
 |(i,x)::ps,l,h=>by
  simp only[jS]at h
  cases hx:ρ x with
  |none=>rw[hx]at h;simp at h
  |some a=>
   cases hl:jS ρ ps with
   |none=>rw[hx,hl]at h;simp at h
   |some m=>
    rw[hx,hl]at h
    simp only[ax]at h
    subst h
    exact⟨rfl,hρ x a hx,cH.parts hρ hl⟩
theorem Mr {M:Nat->Prop} {es:Nat}:∀{ps:List (Nat×AV)} {xs:List (Nat×Value)} {l m:List AV} {cells:Array Value},qK es l ps=some m->tT M w β ps xs->aQ M w β l cells.toList->
   (∀a∈l,a.size=es)->∃cells',Instr.fill (fun i=>some (i*es,es)) cells xs=some cells'/\aQ M w β m cells'.toList/\(∀a∈m,a.size=es)/\m.length=l.length
 |[],[],l,m,cells,hs,_,hc,hl=>by
  simp only[qK,ax]at hs
  subst hs
  exact⟨cells,by rw[Instr.fill.eq_1],hc,hl,rfl⟩
 |(i,a)::ps,(j,x)::xs,l,m,cells,hs,hx,hc,hl=>by
  obtain⟨rfl,hx,hxs⟩:=hx
  simp only[qK]at hs
  split at hs
  ·rename_i hcond
   simp only[Bool.and_eq_true,beq_iff_eq,Bool.not_eq_true',bz]at hcond
   obtain⟨⟨hsz,htup⟩,hlt⟩:=hcond
   have hx1:=hx.one htup
   have hxc:=hx1.cells
   have hxl:x.cells.toList.length=es:=by rw[hxc.length];simp[sizes];omega
   obtain⟨pr,cc,po,hcs,hpr,hcc,hset⟩:=hc.at i l[i] (by simp[hlt])
   have hccl:cc.length=es:=by rw[hcc.length];simp[sizes,hl l[i] (by simp)]
   have hsizes:∀l':List AV,(∀a∈l',a.size=es)->sizes l'=l'.length*es:=by
    intro l' hl'
    induction l' with
    |nil=>simp[sizes]
    |cons b l' ih=>simp[sizes,hl' b (by simp),ih fun a ha=>hl' a (by simp[ha]),Nat.add_mul];omega
   have hprl:pr.length=i*es:=by
    rw[hpr,hsizes _ fun a ha=>hl a (List.mem_of_mem_take ha)]
    rw[List.length_take,Nat.min_eq_left aa]
   have hbound:i*es+x.cells.toList.length<=cells.size:=by
    have:cells.toList.length=pr.length+(cc.length+po.length):=by rw[hcs];simp
    rw[Array.length_toList]at this
    omega
   have hspl:(splice cells (i*es) x.cells.toList).toList=pr++(x.cells.toList++po):=by
    simp only[splice,hcs]
    rw[hxl,<-hprl,<-hccl]
    simp
   obtain⟨cells',hf,hr,h1,h2⟩:=Mr (l:=l.set i a) (cells:=splice cells (i*es) x.cells.toList) hs hxs (by rw[hspl];exact hset a _ hxc)
    (fun b hb=>by
     rcases List.mem_or_eq_of_mem_set hb with hb|hb
     ·exact hl b hb
     ·rw[hb];exact hsz)
   refine⟨cells',?_,hr,h1,by simpa using h2⟩
   have hxs':x.cells.size=es:=by rw[<-Array.length_toList,hxl]
   rw[Instr.fill.eq_2]
   have hb':¬cells.size<i*es+es:=by rw[hxl]at hbound;omega
   simp only[hxs',ne_eq,not_true,decide_false,Bool.false_or,bz,gt_iff_lt,if_neg hb']
   have:=NJ cells (i*es) x.cells.toList hbound
   rw[Array.toArray_toList]at this
   rw[this];exact hf
  ·simp at hs
 |[],_::_,_,_,_,_,hx,_,_=>hx.elim
 |_::_,[],_,_,_,_,hx,_,_=>hx.elim
theorem aQ.nth {M:Nat->Prop} {es:Nat} {z:AV}:∀{l:List AV} {cs:List Value},aQ M w β l cs->(∀a∈l,a.size=es)->∀i,i<l.length->
  ∃ps,ps.length=es/\aQ M w β [nth l z i] ps/\∀j v,ps[j]?=some v->cs[i*es+j]?=some v
 |[],cs,h,_,i,hi=>by simp at hi
 |a::l,cs,h,hs,0,hi=>by
  obtain⟨c1,c2,rfl,h1,h2⟩:=h.split
  refine⟨c1,by rw[h1.length];simp[sizes,hs a (by simp)],by simpa [Am.nth]using h1,fun j v hv=>?_⟩
  have:=(List.getElem?_eq_some_iff.1 hv).1
  rw[Nat.zero_mul,Nat.zero_add,List.getElem?_append_left this];exact hv
 |a::l,cs,h,hs,i+1,hi=>by
  obtain⟨c1,c2,rfl,h1,h2⟩:=h.split
  obtain⟨ps,p1,p2,p3⟩:=aQ.nth (z:=z) h2 (fun b hb=>hs b (by simp[hb])) i (by simpa using hi)
  refine⟨ps,p1,by simpa [Am.nth]using p2,fun j v hv=>?_⟩
  have hc1:c1.length=es:=by rw[h1.length];simp[sizes,hs a (by simp)]
  rw[Nat.add_mul,Nat.one_mul,List.getElem?_append_right aa]
  have:i*es+es+j-c1.length=i*es+j:=aa
  rw[this];exact p3 j v hv
theorem F8 {z:Array Value} {m i j:Nat} (hj:j<z.size) (hi:i<m):(madeCells z (m*z.size))[i*z.size+j]?=z[j]?:=by
 have hlt:i*z.size+j<m*z.size:=by
  have:=Nat.mul_le_mul_right z.size (show i+1<=m by omega)
  rw[Nat.add_mul]at this;omega
 have hmod:(i*z.size+j)%z.size=j:=by rw[Nat.mul_comm,Nat.mul_add_mod,Nat.mod_eq_of_lt hj]
 simp[madeCells,hlt,hmod,hj]
include hT in
theorem Kh (h:bu c st D β w) (hD:∀k,D k->D' k) {K:Nat} (hK:¬D K) (hDK:D' K) {t:TypeId} {ti ei:TI} (ht:look t T=some ti) {e:TypeId} (hd:ti.desc=.slice e) (he:look e T=some ei)
  (h1:ei.size≠0) (h2:ei.zero.size=ei.size) (h3:ei.zero.isTuple=false) {n m:Int} (n0:0<=n) (nm:n<=m) (m1:m<=2^47) (m2:m*ei.bytes<=2^47):
  ∃x w',(Instr.makeSlice t (.int .i64 n) (.int .i64 m)).run P w=.ok x w'/\
   eW c st D' β w [(K,some ⟨true,true,ei.size,n.toNat,fun _=>ei.zero⟩)] (.own K ei.size 0 n.toNat) x w'/\∃base,x=.slice base n.toNat m.toNat:=by
 obtain⟨i,z,hi,hz,hrep⟩:=(hT e ei he).zero h3
 obtain⟨i',hi',his,hib⟩:=(hT e ei he).info
 rw[hi]at hi'
 simp only[ax]at hi'
 subst hi'
 have hc:=(hrep (aO c st β) w bt).cells
 have hl:z.cells.size=ei.size:=by rw[<-Array.length_toList,hc.length];simp[sizes,h2]
 have hrun:=run_make (P:=P) w t e i z (hd▸(hT t ti ht).dh) hi hz .i64 .i64 n m n0 nm (by rw[hib,Int.mul_comm];omega) aa
 rw[his,<-hl]at hrun
 refine⟨_,_,hrun,⟨β.set K (w.heap.size,m.toNat,n.toNat),?_⟩,_,rfl⟩
 obtain⟨q1,q2⟩:=h.alloc (D':=D') (o:=⟨true,true,ei.size,n.toNat,fun _=>ei.zero⟩) hK hD hDK rfl (cs:=madeCells z.cells (m.toNat*z.cells.size)) (ty:=e) (N:=m.toNat) (by simp[size_madeCells,hl]) (by simp;omega) (by simp;omega)
  (fun j hj=>⟨z.cells.toList,by simp[hl],by simpa using hc,fun k v hv=>by
   have hk:k<z.cells.size:=by simpa using(List.getElem?_eq_some_iff.1 hv).1
   simp only[<-hl]
   rw[F8 hk (by simp only at hj;omega)]
   simpa using hv⟩)
 refine⟨q1,q2,bw.bP (.cz ?_ rfl)⟩
 exact aQ.own (N:=(m.toNat,n.toNat)) (aZ.gh _ _ _) ⟨by simp,by simp⟩ aa (.inr (by simp)) aa .nil
end ops
end Go.Am
namespace Go.Am
open AV
section ops
variable {P:Program} {T:Types} (hT:dJ P T)
variable {c:Ctx} {st pre:aD} {D D':Nat->Prop} {β:aZ} {w:World}
mutual
theorem VJ {pre:aD}:∀{v u:AV},dj pre v=some u->u.size=v.size
 |.bool _,u,h|.int _ _,u,h|.rat _ _,u,h|.mag _,u,h|.ak _ _ _,u,h|.eB _ _ _ _,u,h|.nil,u,h|.void,u,h|.str _,u,h|.bn _,u,h=>by
  simp only[dj,ax]at h;subst h;rfl
 |.ptr _ _ _ _ _,u,h|.tuple _,u,h=>by simp[dj]at h
 |.bS c v,u,h=>by
  simp only[dj]at h
  cases hl:dj pre v with
  |none=>rw[hl]at h;simp at h
  |some m=>rw[hl]at h;simp only[ax]at h;subst h;rfl
 |.func _ l,u,h=>by
  simp only[dj]at h
  cases hl:fh pre l with
  |none=>rw[hl]at h;simp at h
  |some m=>
   rw[hl]at h
   simp only at h
   split at h
   ·simp only[ax]at h;subst h;rfl
   ·simp at h
 |.own k es s n,u,h=>by
  simp only[dj]at h
  cases hl:look k pre with
  |none=>rw[hl]at h;simp at h
  |some o=>
   rw[hl]at h
   simp only at h
   split at h
   ·simp only[ax]at h;subst h;rfl
   ·simp at h
 |.agg l,u,h=>by
  simp only[dj]at h
  cases hl:fh pre l with
  |none=>rw[hl]at h;simp at h
  |some m=>
   rw[hl]at h
   simp only[ax]at h;subst h
   simp only[size]
   exact(Ba hl).1
theorem Ba {pre:aD}:∀{l m:List AV},fh pre l=some m->sizes m=sizes l/\m.length=l.length/\∀es,(∀a∈l,a.size=es)->∀a∈m,a.size=es
 |[],m,h=>by simp only[fh,ax]at h;subst h;simp
 |a::l,m,h=>by
  simp only[fh]at h
  cases ha:dj pre a with
  |none=>rw[ha]at h;simp at h
  |some b=>
   cases hl:fh pre l with
   |none=>rw[ha,hl]at h;simp at h
   |some m'=>
    rw[ha,hl]at h
    simp only[ax]at h
    subst h
    obtain⟨h1,h2,h3⟩:=Ba hl
    have h4:=VJ ha
    refine⟨by simp[sizes,h1,h4],by simp[h2],fun es hes x hx=>?_⟩
    rcases List.mem_cons.1 hx with rfl|hx
    ·rw[h4];exact hes a (by simp)
    ·exact h3 es (fun y hy=>hes y (by simp[hy])) x hx
end
theorem aes (z:Array Value) (n:Nat):(madeCells z ((n+1)*z.size)).toList=z.toList++(madeCells z (n*z.size)).toList:=by
 apply List.ext_getElem?
 intro i
 by_cases hz:z.size=0
 ·have h2:z.toList=[]:=by rw[<-Array.length_toList]at hz;exact List.length_eq_zero_iff.1 hz
  simp[madeCells,hz,Array.range_zero',h2]
 by_cases hi:i<z.size
 ·rw[List.getElem?_append_left (by simpa using hi)]
  have:=F8 (z:=z) (m:=n+1) (i:=0) hi aa
  simpa using this
 ·rw[List.getElem?_append_right (by simpa using hi)]
  simp only[Array.length_toList,Array.getElem?_toList]
  simp only[madeCells,Array.getElem?_map]
  by_cases h2:i<(n+1)*z.size
  ·have h3:i-z.size<n*z.size:=by rw[Nat.add_mul]at h2;omega
   have h4:(i-z.size)%z.size=i%z.size:=by
    have:i=(i-z.size)+z.size:=aa
    rw[this,Nat.add_mod_right];congr 1;omega
   simp[h2,h3,h4]
  ·have h3:¬i-z.size<n*z.size:=by rw[Nat.add_mul]at h2;omega
   simp[h2,h3]
theorem NN {M:Nat->Prop} {a:AV} {z:Array Value} (h:aQ M w β [a] z.toList):∀n:Nat,aQ M w β (List.replicate n a) (madeCells z (n*z.size)).toList
 |0=>by simpa [madeCells,Array.range_zero']using aQ.nil
 |n+1=>by
  rw[aes,List.replicate_succ]
  exact h.cons (NN h n)
include hT in
theorem UM (h:bu c st D β w) (hpre:∀k o,look k pre=some o->look k st=some o) (hD:∀k,D k->D' k) {K:Nat} (hK:¬D K) (hDK:D' K) {t:TypeId} {ti ei:TI} (ht:look t T=some ti) {e:TypeId}
  (hd:ti.desc=.slice e) (he:look e T=some ei) (h1:ei.size≠0) (h2:ei.zero.size=ei.size) (h3:ei.zero.isTuple=false) {n:Nat} {ps:List (Nat×AV)} {xs:List (Nat×Value)}
  (hx:tT (aO c st β) w β ps xs) {m m':List AV} (hs:qK ei.size (List.replicate n ei.zero) ps=some m) (hf:fh pre m=some m') (hn:n*ei.size<=2^24):
  ∃x w',(Instr.buildSlice t n xs.toArray).run P w=.ok x w'/\eW c st D' β w [(K,some ⟨true,true,ei.size,n,nth m' ei.zero⟩)] (.own K ei.size 0 n) x w':=by
 obtain⟨i,z,hi,hz,hrep⟩:=(hT e ei he).zero h3
 obtain⟨i',hi',his,hib⟩:=(hT e ei he).info
 rw[hi]at hi'
 simp only[ax]at hi'
 subst hi'
 have hc:=(hrep (aO c st β) w β).cells
 have hl:z.cells.size=ei.size:=by rw[<-Array.length_toList,hc.length];simp[sizes,h2]
 obtain⟨cells,g1,g2,g3,g4⟩:=Mr (es:=ei.size) hs hx (cells:=madeCells z.cells (n*z.cells.size)) (NN hc n) (fun a ha=>by rw[(List.mem_replicate.1 ha).2,h2])
 have g2':=yD h hpre hf g2
 obtain⟨f1,f2,f3⟩:=Ba hf
 have g3':=f3 ei.size g3
 have hlen:m'.length=n:=by rw[f2,g4];simp
 have hcl:cells.size=n*ei.size:=by
  rw[<-Array.length_toList,g2'.length]
  have:∀l':List AV,(∀a∈l',a.size=ei.size)->sizes l'=l'.length*ei.size:=by
   intro l' hl'
   induction l' with
   |nil=>simp[sizes]
   |cons b l' ih=>simp[sizes,hl' b (by simp),ih fun a ha=>hl' a (by simp[ha]),Nat.add_mul];omega
  rw[this _ g3',hlen]
 have hrun:(Instr.buildSlice t n xs.toArray).run P w=.ok (.slice (some ⟨w.heap.size,0,none⟩) n n) (w.alloc (.cells cells e)):=by
  have hbig:¬2^24<n*i.size:=by rw[his];omega
  rw[his,<-hl]at hbig
  rw[<-hl]at g1
  by_cases h0:n*z.cells.size=0
  ·have:madeCells z.cells (n*z.cells.size)=#[]:=by rw[h0];simp[madeCells,Array.range_zero']
   rw[this]at g1
   simp[Instr.buildSlice,run_underlying (hd▸(hT t ti ht).dh),sizeOf,typeInfo,hi,his,<-hl,h0,newRow,Array.range_zero',g1]
  ·have hb2:¬16777216<n*z.cells.size:=aa
   have g1':Instr.fill (fun i=>some (i*z.cells.size,z.cells.size)) (Array.map (fun x=>z.cells[x%z.cells.size]!) (Array.range (n*z.cells.size))) xs=some cells:=g1
   simp[Instr.buildSlice,run_underlying (hd▸(hT t ti ht).dh),sizeOf,typeInfo,zeroValue,hi,hz,his,<-hl,h0,hb2,newRow,g1']
 refine⟨_,_,hrun,β.set K (w.heap.size,n,n),?_⟩
 obtain⟨q1,q2⟩:=h.alloc (D':=D') (o:=⟨true,true,ei.size,n,nth m' ei.zero⟩) hK hD hDK rfl (cs:=cells) (ty:=e) (N:=n) (by simp[hcl]) (by simp;omega) (by simp)
  (fun j hj=>by
   obtain⟨ps',p1,p2,p3⟩:=g2'.nth (z:=ei.zero) g3' j (by simp only at hj;omega)
   exact⟨ps',p1,p2,fun k v hv=>by simpa using p3 k v hv⟩)
 refine⟨q1,q2,bw.bP (.cz ?_ rfl)⟩
 exact aQ.own (N:=(n,n)) (aZ.gh _ _ _) ⟨by simp,by simp⟩ aa (.inr (by simp)) aa .nil
theorem jh {M:Nat->Prop} {ρ:Operand->Option AV} {ev:Operand->Value} (hρ:∀x v,ρ x=some v->bJ M w β v (ev x)) {d:Int} {x:Option Operand} {n:Int} (h:cK ρ d x=some n):
  (x=none/\n=d)\/∃k o,x=some o/\ev o=.int k n:=by
 cases x with
 |none=>simp only[cK,ax]at h;exact .inl ⟨rfl,h.symm⟩
 |some o=>
  simp only[cK]at h
  split at h
  ·rename_i k m ho
   simp only[ax]at h
   subst h
   exact .inr ⟨k,o,rfl,(hρ _ _ ho).int⟩
  ·simp at h
theorem iZ (k:IntKind) (i:Int) (y:Nat) (code:BoundsCode) (h0:0<=i) (h1:i<=y):(Instr.sliceBound (.int k i) y code).run P w=.ok i.toNat w:=by
 simp[Instr.sliceBound,asIntOf,if_pos (And.intro h0 h1)]
theorem acW {M:Nat->Prop} {ρ:Operand->Option AV} {ev:Operand->Value} (hρ:∀x v,ρ x=some v->bJ M w β v (ev x)) {lo hi mx:Option Operand} {l h m:Int} {n cap:Nat}
  (hl:cK ρ 0 lo=some l) (hh:cK ρ n hi=some h) (hm:cK ρ h mx=some m) (h0:0<=l) (h1:l<=h) (h2:h<=m) (h3:m<=n) (h4:n<=cap) (hmx:mx.isSome=true->hi.isSome=true):
  ∃m':Nat,(Instr.sliceBounds true n cap (lo.map ev) (hi.map ev) (mx.map ev)).run P w=.ok (l.toNat,h.toNat,m') w/\h.toNat<=m'/\m'<=cap:=by
 rcases jh hρ hm with⟨rfl,rfl⟩|⟨km,om,rfl,hom⟩
 ·refine⟨cap,?_,aa,aR⟩
  rcases jh hρ hh with⟨rfl,rfl⟩|⟨kh,oh,rfl,hoh⟩
  ·rcases jh hρ hl with⟨rfl,rfl⟩|⟨kl,ol,rfl,hol⟩
   ·simp[Instr.sliceBounds]
   ·simp[Instr.sliceBounds,hol,iZ kl l n .sliceB h0 h1]
  ·have b2:=iZ (P:=P) (w:=w) kh m cap .sliceAcap aa aa
   rcases jh hρ hl with⟨rfl,rfl⟩|⟨kl,ol,rfl,hol⟩
   ·simp[Instr.sliceBounds,hoh,b2]
   ·simp[Instr.sliceBounds,hol,hoh,b2,iZ kl l m.toNat .sliceB h0 aa]
 ·refine⟨m.toNat,?_,aa,aa⟩
  have b1:=iZ (P:=P) (w:=w) km m cap .slice3Acap aa aa
  rcases jh hρ hh with⟨rfl,rfl⟩|⟨kh,oh,rfl,hoh⟩
  ·simp at hmx
  ·have b2:=iZ (P:=P) (w:=w) kh h m.toNat .slice3B aa aa
   rcases jh hρ hl with⟨rfl,rfl⟩|⟨kl,ol,rfl,hol⟩
   ·simp[Instr.sliceBounds,hom,hoh,b1,b2]
   ·simp[Instr.sliceBounds,hom,hol,hoh,b1,b2,iZ kl l h.toNat .slice3C h0 aa]
include hT in
theorem wX {t:TypeId} {ti ei:TI} (ht:look t T=some ti) {e:TypeId} (hd:ti.desc=.slice e) (he:look e T=some ei) {base:Option Addr} {n cap:Nat} {lo hi mx:Option Value} {l h m:Nat}
  (hb:(Instr.sliceBounds true n cap lo hi mx).run P w=.ok (l,h,m) w):
  (Instr.sliceAt t (.slice base n cap) lo hi mx).run P w=.ok (.slice (if m=l then base else base.map (·.add (l*ei.size))) (h-l) (m-l)) w:=by
 obtain⟨inf,hi',his,_⟩:=(hT e ei he).info
 have hu:=hd▸(hT t ti ht).dh
 simp only[Instr.sliceAt,Sem.run_bind,run_underlying hu w,Result.andThen_ok,Instr.slice,hb,sizeOf,typeInfo,run_program,hi',his,Sem.run_pure]
theorem o8 (h:bu c st D β w) (hpre:∀k o,look k pre=some o->look k st=some o) {es:Nat} (h0:0<es) {y:AV} {x:Value} (hy:bJ (aO c st β) w β y x) {m:Nat} {g:Nat->AV}
  (hr:readAll pre es y=some (m,g)):∃base cap,∃cf:Nat->List Value,x=.slice base m cap/\(m=0\/∃b o,base=some ⟨b,o,none⟩/\∀i,i<m->w.rangeAt b (o+i*es) (cf i))/\m<=cap/\
   (base=none->m=0)/\∀i,i<m->(cf i).length=es/\aQ (aO c st β) w bt [g i] (cf i):=by
 cases y with
 |ak e n f=>
  simp only[readAll]at hr
  split at hr
  ·rename_i hc
   simp only[ax,Prod.mk.injEq]at hr
   obtain⟨rfl,rfl⟩:=hr
   have hc':e=es:=by simpa using hc
   subst hc'
   obtain⟨base,cap,cf,rfl,g1,g2,g3,g4,g5⟩:=hy.ak
   refine⟨base,cap,cf,rfl,?_,g3,?_,fun i hi=>⟨g4 i hi,g5 i hi⟩⟩
   ·rcases g1 with g1|⟨b,o,rfl,g1⟩
    ·exact .inl g1
    ·exact .inr ⟨b,o,rfl,fun i hi=>(g1 i hi).range⟩
   ·rintro rfl
    rcases g1 with g1|⟨b,o,hb,g1⟩
    ·exact g1
    ·simp at hb
  ·simp at hr
 |mag N=>
  simp only[readAll]at hr
  split at hr
  ·rename_i hc
   simp only[ax,Prod.mk.injEq]at hr
   obtain⟨rfl,rfl⟩:=hr
   have hc':es=1:=by simpa using hc
   subst hc'
   obtain⟨base,cap,rfl,g1,g2⟩:=hy.mag
   refine⟨base,cap,fun i=>[.int .u32 (aB N i)],rfl,?_,g2,?_,fun i hi=>⟨rfl,.int .nil⟩⟩
   ·rcases g1 with g1|⟨b,o,rfl,g1⟩
    ·left;rw[g1,uc]
    ·refine .inr ⟨b,o,rfl,fun i hi j v hv=>?_⟩
     have hj:j=0:=by have:=(List.getElem?_eq_some_iff.1 hv).1;simp at this;exact this
     subst hj
     simp only[List.getElem?_cons_zero,ax]at hv
     subst hv
     have:=g1.range i _ (yO hi)
     simpa using this
   ·rintro rfl
    rcases g1 with g1|⟨b,o,hb,g1⟩
    ·rw[g1,uc]
    ·simp at hb
  ·simp at hr
 |nil=>
  simp only[readAll,ax,Prod.mk.injEq]at hr
  obtain⟨rfl,rfl⟩:=hr
  have:=hy.nil
  subst this
  exact⟨none,0,fun _=>[],rfl,.inl rfl,aR,fun _=>rfl,fun i hi=>aa⟩
 |own k e s n=>
  simp only[readAll]at hr
  split at hr
  ·rename_i hc
   have hc':e=es:=by simpa using hc
   cases hk:look k pre with
   |none=>rw[hk]at hr;simp at hr
   |some o=>
    rw[hk]at hr
    simp only at hr
    split at hr
    ·rename_i hc2
     simp only[ax,Prod.mk.injEq]at hr
     obtain⟨rfl,rfl⟩:=hr
     simp only[Bool.and_eq_true,beq_iff_eq]at hc2
     rcases hy.own with g|⟨rfl,_,rfl,_⟩
     rotate_left
     ·exact⟨none,0,fun _=>[],rfl,.inl rfl,aR,fun _=>rfl,fun i hi=>aa⟩
     obtain⟨b,off,cap,N,rfl,g1,g2,g3,g4,g5,g6⟩:=g
     have hk':=hpre k o hk
     obtain⟨b1,N1,cs1,ty1,a1,a2,a3,a4,⟨a5,a5'⟩,a6,a7,a8⟩:=h.obj k o hk' _ g1
     rw[g1]at a1
     simp only[ax,Prod.mk.injEq]at a1
     obtain⟨rfl,rfl⟩:=a1
     have hcf:∀i,∃ps:List Value,i<n->ps.length=es/\aQ (aO c st β) w bt [o.f (i+s)] ps/\∀j v,ps[j]?=some v->cs1[(i+s)*o.es+j]?=some v:=fun i=>by
      by_cases hi:i<n
      ·obtain⟨ps,p1,p2,p3⟩:=a8 (i+s) aa
       rw[hc2.1]at p2
       exact⟨ps,fun _=>⟨aa,p2,p3⟩⟩
      ·exact⟨[],fun h=>absurd h hi⟩
     refine⟨_,cap,fun i=>Classical.choose (hcf i),rfl,?_,g4,by simp,fun i hi=>⟨(Classical.choose_spec (hcf i) hi).1,(Classical.choose_spec (hcf i) hi).2.1⟩⟩
     by_cases hn:n=0
     ·exact .inl hn
     ·refine .inr ⟨b,off,rfl,fun i hi j v hv=>?_⟩
      have:=(Classical.choose_spec (hcf i) hi).2.2 j v hv
      rw[sY a2]
      have ho:off+i*es=(i+s)*o.es:=by
       rcases g5 with g5|g5
       ·omega
       ·rw[g5,hc2.2,hc',Nat.add_mul];omega
      rw[ho];exact this
    ·simp at hr
  ·simp at hr
 |_=>simp[readAll]at hr
def flat (cf:Nat->List Value) (m:Nat):List Value:=(List.range m).flatMap cf
theorem p8 (cf:Nat->List Value) (m:Nat):flat cf (m+1)=flat cf m++cf m:=by simp[flat,List.range_succ]
theorem lG {cf:Nat->List Value} {es:Nat}:∀{m:Nat},(∀i,i<m->(cf i).length=es)->(flat cf m).length=m*es
 |0,_=>by simp[flat]
 |m+1,h=>by rw[p8,List.length_append,lG fun i hi=>h i aa,h m aa,Nat.add_mul,Nat.one_mul]
theorem nO {cf:Nat->List Value} {es:Nat}:∀{m:Nat},(∀i,i<m->(cf i).length=es)->∀{i j:Nat},i<m->j<es->(flat cf m)[i*es+j]?=(cf i)[j]?
 |0,_,i,j,hi,_=>aa
 |m+1,h,i,j,hi,hj=>by
  have hl:=lG (cf:=cf) (es:=es) (m:=m) fun i hi=>h i aa
  rw[p8]
  by_cases him:i<m
  ·have:=Nat.mul_le_mul_right es (show i+1<=m by omega)
   rw[Nat.add_mul,Nat.one_mul]at this
   rw[List.getElem?_append_left aa]
   exact nO (fun i hi=>h i aa) him hj
  ·have:i=m:=aa
   subst this
   rw[List.getElem?_append_right aa,hl]
   congr 1;omega
theorem SA {cf:Nat->List Value} {es m:Nat} (h0:0<es) (h:∀i,i<m->(cf i).length=es) {k:Nat} {v:Value} (hv:(flat cf m)[k]?=some v):
  k/es<m/\(cf (k/es))[k%es]?=some v:=by
 have hk:=(List.getElem?_eq_some_iff.1 hv).1
 rw[lG h]at hk
 have h1:k/es<m:=(Nat.div_lt_iff_lt_mul h0).2 hk
 refine⟨h1,?_⟩
 rw[<-nO h h1 (Nat.mod_lt _ h0)]
 have:k/es*es+k%es=k:=by rw[Nat.mul_comm];exact Nat.div_add_mod k es
 rw[this];exact hv
theorem uT {M:Nat->Prop} {cf:Nat->List Value} {g:Nat->AV} {m:Nat} (h:∀i,i<m->aQ M w β [g i] (cf i)):∀v∈flat cf m,v.oneCell'=true:=by
 intro v hv
 obtain⟨i,hi,hv⟩:=List.mem_flatMap.1 hv
 exact(h i (by simpa using hi)).EA v hv
end ops
end Go.Am
namespace Go.Am
open AV
section ops
variable {P:Program} {T:Types} (hT:dJ P T)
variable {c:Ctx} {st pre:aD} {D D':Nat->Prop} {β:aZ} {w:World}
theorem qk {es m cap:Nat} {base:Option Addr} {cf:Nat->List Value} (h0:0<es) (hl:∀i,i<m->(cf i).length=es)
  (hm:m=0\/∃b o,base=some ⟨b,o,none⟩/\∀i,i<m->w.rangeAt b (o+i*es) (cf i)) (l:Nat):(Builtin.firstCells es m (.slice base l cap)).run P w=.ok (flat cf m).toArray w:=by
 cases base with
 |none=>
  rcases hm with rfl|⟨b,o,hb,_⟩
  ·simp[Builtin.firstCells,flat]
  ·simp at hb
 |some a=>
  refine run_firstCells_some w es m a l cap _ (lG hl) fun j v hv=>?_
  obtain⟨h1,h2⟩:=SA h0 hl hv
  rcases hm with rfl|⟨b,o,hb,hr⟩
  ·simp[flat]at hv
  ·simp only[ax]at hb
   subst hb
   have:=hr _ h1 _ _ h2
   rw[Addr.add_mid]
   have hj:o+j=o+j/es*es+j%es:=by
    have:j/es*es+j%es=j:=by rw[Nat.mul_comm];exact Nat.div_add_mod j es
    omega
   rw[hj];exact this
include hT in
theorem vZ {t:TypeId} {ti:TI} (ht:look t T=some ti) {e:TypeId} (hd:ti.desc=.slice e) {es:Nat} {m cap:Nat} {base:Option Addr} {cf:Nat->List Value} {g:Nat->AV} {M:Nat->Prop} (h0:0<es)
  (hm:m=0\/∃b o,base=some ⟨b,o,none⟩/\∀i,i<m->w.rangeAt b (o+i*es) (cf i)) (hc:∀i,i<m->(cf i).length=es/\aQ M w bt [g i] (cf i)):
  Src P es t (.slice base m cap) m (flat cf m) w:=
 ⟨.inl ⟨e,hd▸(hT t ti ht).dh⟩,fun _=>rfl,qk h0 (fun i hi=>(hc i hi).1) hm m,qk (w:=w.drew) h0 (fun i hi=>(hc i hi).1) (hm.imp id fun⟨b,o,h1,h2⟩=>⟨b,o,h1,fun i hi=>h2 i hi⟩) m,
  lG fun i hi=>(hc i hi).1,uT fun i hi=>(hc i hi).2⟩
theorem tQ (z:Array Value) (n:Nat):(Builtin.zeroCells z n).size=n*z.size:=by simp[Builtin.zeroCells]
theorem bu.elems (h:bu c st D β w) {k:Nat} {o:az} (hk:look k st=some o) (hr:o.row=true) {b:Nat} {N:Nat×Nat} (hb:β k=some (b,N)):
  ∃cs ty,∃cf:Nat->List Value,w.heap[b]?=some (.cells cs ty (0,0))/\cs.size=N.1*o.es/\0<o.es/\o.len=N.2/\o.len<=N.1/\
   ∀i,i<o.len->(cf i).length=o.es/\aQ (aO c st β) w bt [o.f i] (cf i)/\∀j v,(cf i)[j]?=some v->cs[i*o.es+j]?=some v:=by
 obtain⟨b1,N1,cs1,ty1,a1,a2,a3,a4,⟨a5,a5'⟩,a6,a7,a8⟩:=h.obj k o hk _ hb
 rw[hb]at a1
 simp only[ax,Prod.mk.injEq]at a1
 obtain⟨rfl,rfl⟩:=a1
 have hcf:∀i,∃ps:List Value,i<o.len->ps.length=o.es/\aQ (aO c st β) w bt [o.f i] ps/\∀j v,ps[j]?=some v->cs1[i*o.es+j]?=some v:=fun i=>by
  by_cases hi:i<o.len
  ·obtain⟨ps,p1,p2,p3⟩:=a8 i hi
   rw[hr]at p2
   exact⟨ps,fun _=>⟨p1,p2,p3⟩⟩
  ·exact⟨[],fun h=>absurd h hi⟩
 exact⟨cs1,ty1,fun i=>Classical.choose (hcf i),a2,a3,a4,a5,a5',fun i hi=>Classical.choose_spec (hcf i) hi⟩
theorem J8 {cf cg:Nat->List Value}:∀{m:Nat},(∀i,i<m->cf i=cg i)->flat cf m=flat cg m
 |0,_=>rfl
 |m+1,h=>by rw[p8,p8,J8 fun i hi=>h i aa,h m aa]
theorem Eh (cf cg:Nat->List Value) (n m:Nat):flat cf n++flat cg m=flat (fun i=>if i<n then cf i else cg (i-n)) (n+m):=by
 induction m with
 |zero=>
  rw[show flat cg 0=[]from rfl,List.append_nil,Nat.add_zero]
  exact J8 fun i hi=>by rw[if_pos hi]
 |succ m ih=>
  rw[p8,<-List.append_assoc,ih,<-Nat.add_assoc,p8]
  congr 1
  rw[if_neg aa]
  congr 1;omega
theorem bu.sW (h:bu c st D β w) {K:Nat} (hK:¬D K) (hD:∀k,D k->D' k) (hDK:D' K) {es len C:Nat} {f:Nat->AV} {cf:Nat->List Value} (h0:0<es) (hlen:len<=C)
  (hcf:∀i,i<len->(cf i).length=es/\aQ (aO c st β) w bt [f i] (cf i)) {Z:Array Value} (hZ:Z.size=(C-len)*es) {ty:TypeId}:
  bu c (put K ⟨true,true,es,len,f⟩ st) D' (β.set K (w.heap.size,C,len)) (w.alloc (.cells ((flat cf len).toArray++Z) ty))/\
   cX (aO c st β) w β (aO c (put K ⟨true,true,es,len,f⟩ st) (β.set K (w.heap.size,C,len))) (w.alloc (.cells ((flat cf len).toArray++Z) ty)) (β.set K (w.heap.size,C,len)):=by
 have hfl:=lG (cf:=cf) (m:=len) (es:=es) fun i hi=>(hcf i hi).1
 refine h.alloc (D':=D') (o:=⟨true,true,es,len,f⟩) hK hD hDK rfl (N:=C) ?_ h0 hlen (fun i hi=>⟨cf i,(hcf i hi).1,(hcf i hi).2,fun j v hv=>?_⟩)
 ·simp only[Array.size_append,List.size_toArray,hfl,hZ]
  rw[<-Nat.add_mul];congr 1;omega
 ·have hj:=(List.getElem?_eq_some_iff.1 hv).1
  rw[(hcf i hi).1]at hj
  have:=nO (cf:=cf) (m:=len) (es:=es) (fun i hi=>(hcf i hi).1) hi hj
  have hlt:i*es+j<(flat cf len).length:=by
   have:=Nat.mul_le_mul_right es (show i+1<=len from hi)
   rw[Nat.add_mul,Nat.one_mul]at this
   rw[hfl];omega
  rw[Array.getElem?_append_left (by simpa using hlt)]
  simpa [this]using hv
include hT in
theorem VO (h:bu c st D β w) (hpre:∀k o,look k pre=some o->look k st=some o) (hD:∀k,D k->D' k) {K:Nat} (hK:¬D K) (hDK:D' K) {t t' ty:TypeId} {ti ti' ei:TI}
  (ht:look t T=some ti) (ht':look t' T=some ti') {e e':TypeId} (hd:ti.desc=.slice e) (hd':ti'.desc=.slice e') (he:look e T=some ei) (h1:ei.size≠0) (h2:ei.zero.size=ei.size)
  (h3:ei.zero.isTuple=false)
  {y:AV} {x:Value} (hy:bJ (aO c st β) w β y x) {m:Nat} {g:Nat->AV} (hr:readAll pre ei.size y=some (m,g)) (n0:0<m) (n1:m*(ei.bytes+1)*2<=2^47):
  ∃z w',(Builtin.append_ #[t,t'] ty #[.slice none 0 0,x]).run P w=.ok z w'/\eW c st D' β w [(K,some ⟨true,true,ei.size,m,g⟩)] (.own K ei.size 0 m) z w':=by
 obtain⟨i,zz,hi,hz,hrep⟩:=(hT e ei he).zero h3
 obtain⟨i',hi',his,hib⟩:=(hT e ei he).info
 rw[hi]at hi'
 simp only[ax]at hi'
 subst hi'
 have hzl:zz.cells.size=ei.size:=by rw[<-Array.length_toList,(hrep (aO c st β) w β).cells.length];simp[sizes,h2]
 obtain⟨base,cap,cf,rfl,g1,g2,g3,g4⟩:=o8 h hpre aa hy hr
 have hsrc:=vZ hT ht' hd' (cap:=cap) aa g1 g4
 rw[<-his]at hsrc
 have hmb:m*ei.bytes<=2^47:=Nat.le_trans (by rw[Nat.mul_assoc];exact Nat.mul_le_mul_left m aa) n1
 have hm2:m*2<=2^47:=Nat.le_trans (by rw[Nat.mul_assoc];exact Nat.mul_le_mul_left m aa) n1
 have hrun:=run_append_grow_src (P:=P) w t t' ty e i zz (hd▸(hT t ti ht).dh) hi hz none 0 0 [] (by simp[Builtin.firstCells]) (.slice base m cap) m (flat cf m) hsrc aa aa
  (growslice_fits aa (by rw[hib,Nat.zero_add];omega))
 rw[Nat.zero_add,List.nil_append]at hrun
 have hcap:m<=grownCap w m 0 e:=by simp[grownCap,Question.cut]
 generalize grownCap w m 0 e=C at hrun hcap
 refine⟨_,_,hrun,β.set K (w.heap.size,C,m),?_⟩
 have e1:cX (aO c st β) w β (aO c st β) w.drew β:=cX.drew
 obtain⟨q1,q2⟩:=h.drew.sW (D':=D') (es:=ei.size) (f:=g) (cf:=cf) hK hD hDK aa hcap (fun i hi=>⟨(g4 i hi).1,(g4 i hi).2.nY e1⟩) (Z:=Builtin.zeroCells zz.cells (C-m)) (by rw[tQ,hzl]) (ty:=e)
 refine⟨q1,e1.trans q2,bw.bP (.cz ?_ rfl)⟩
 exact aQ.own (N:=(C,m)) (aZ.gh _ _ _) ⟨by simp,by simp⟩ hcap (.inr (by simp)) aa .nil
include hT in
theorem Uk (h:bu c st D β w) (hpre:∀k o,look k pre=some o->look k st=some o) (hD:∀k,D k->D' k) {K:Nat} (hK:¬D K) (hDK:D' K) {t t' ty:TypeId} {ti ti' ei:TI}
  (ht:look t T=some ti) (ht':look t' T=some ti') {e e':TypeId} (hd:ti.desc=.slice e) (hd':ti'.desc=.slice e') (he:look e T=some ei) (h1:ei.size≠0)
  (h3:ei.zero.isTuple=false)
  {y:AV} {x:Value} (hy:bJ (aO c st β) w β y x) {g:Nat->AV} (hr:readAll pre ei.size y=some (0,g)):
  ∃z w',(Builtin.append_ #[t,t'] ty #[.slice none 0 0,x]).run P w=.ok z w'/\eW c st D' β w [(K,some ⟨true,true,ei.size,0,g⟩)] (.own K ei.size 0 0) z w':=by
 obtain⟨i,zz,hi,hz,hrep⟩:=(hT e ei he).zero h3
 obtain⟨i',hi',his,hib⟩:=(hT e ei he).info
 rw[hi]at hi'
 simp only[ax]at hi'
 subst hi'
 obtain⟨base,cap,cf,rfl,g1,g2,g3,g4⟩:=o8 h hpre aa hy hr
 have hsrc0:=vZ hT ht' hd' (cap:=cap) aa g1 g4
 have hu:=hd▸(hT t ti ht).dh
 have hcells:=hsrc0.cells
 have hf:(flat cf 0).toArray=#[]:=by simp[flat]
 rw[hf]at hcells
 have hrun:(Builtin.append_ #[t,t'] ty #[.slice none 0 0,.slice base 0 cap]).run P w=.ok (.slice none 0 0) w:=by
  simp[Builtin.append_,run_underlying hu,run_underlying (hd'▸(hT t' ti' ht').dh),sizeOf,typeInfo,hi,Builtin.lenOf,his,hcells]
 obtain⟨q1,q2⟩:=h.Ms (D':=D') (K:=K) (o:=⟨true,true,ei.size,0,g⟩) hK hD hDK rfl rfl (by simp only;omega)
 exact⟨_,_,hrun,β,q1,q2,bw.bP (.cz (.own0 aa .nil) rfl)⟩
include hT in
theorem JJ (h:bu c st D β w) (hpre:∀k o,look k pre=some o->look k st=some o) (hD:∀k,D k->D' k) {K:Nat} (hK:¬D K) (hDK:D' K) {t t' ty:TypeId} {ti ti' ei:TI}
  (ht:look t T=some ti) (ht':look t' T=some ti') {e e':TypeId} (hd:ti.desc=.slice e) (hd':ti'.desc=.slice e') (he:look e T=some ei) (h1:ei.size≠0) (h2:ei.zero.size=ei.size)
  (h3:ei.zero.isTuple=false)
  {y:AV} {x:Value} (hy:bJ (aO c st β) w β y x) {m:Nat} {g:Nat->AV} (hr:readAll pre ei.size y=some (m,g))
  {k n:Nat} {o:az} {s:Value} (hs:bJ (aO c st β) w β (.own k ei.size 0 n) s) (hk:look k st=some o) (hrow:o.row=true) (hwr:o.wr=true) (hes:o.es=ei.size)
  (n1:(n+m)*(ei.bytes+1)*2<=2^47):
  ∃z w',(Builtin.append_ #[t,t'] ty #[s,x]).run P w=.ok z w'/\
   eW c st D' β w [(k,none),(K,some ⟨true,true,ei.size,n+m,fun i=>if i<n then o.f i else g (i-n)⟩)] (.own K ei.size 0 (n+m)) z w'/\∀base scap,s=.slice base n scap->n+m<=scap->∃base',z=.slice base' (n+m) scap:=by
 obtain⟨i,zz,hi,hz,hrep⟩:=(hT e ei he).zero h3
 obtain⟨i',hi',his,hib⟩:=(hT e ei he).info
 rw[hi]at hi'
 simp only[ax]at hi'
 subst hi'
 have hzl:zz.cells.size=ei.size:=by rw[<-Array.length_toList,(hrep (aO c st β) w β).cells.length];simp[sizes,h2]
 obtain⟨base,cap,cf,rfl,g1,g2,g3,g4⟩:=o8 h hpre aa hy hr
 have hsrc:=vZ hT ht' hd' (cap:=cap) aa g1 g4
 have hu:=hd▸(hT t ti ht).dh
 have hmb:(n+m)*ei.bytes<=2^47:=Nat.le_trans (by rw[Nat.mul_assoc];exact Nat.mul_le_mul_left _ aa) n1
 have hm2:(n+m)*2<=2^47:=Nat.le_trans (by rw[Nat.mul_assoc];exact Nat.mul_le_mul_left _ aa) n1
 rcases hs.own with hs|⟨rfl,_,rfl,_⟩
 rotate_left
 ·have hsrc0:=hsrc
  rw[<-his]at hsrc
  by_cases hm0:m=0
  ·subst hm0
   have hcells:=hsrc0.cells
   have hf:(flat cf 0).toArray=#[]:=by simp[flat]
   rw[hf]at hcells
   have hrun:(Builtin.append_ #[t,t'] ty #[.slice none 0 0,.slice base 0 cap]).run P w=.ok (.slice none 0 0) w:=by
    simp[Builtin.append_,run_underlying hu,run_underlying (hd'▸(hT t' ti' ht').dh),sizeOf,typeInfo,hi,Builtin.lenOf,his,hcells,storeCells]
   obtain⟨d1,d2⟩:=h.drop k
   obtain⟨q1,q2⟩:=d1.Ms (D':=D') (K:=K) (o:=⟨true,true,ei.size,0+0,fun i=>if i<0 then o.f i else g (i-0)⟩) hK hD hDK rfl rfl (by simp only;omega)
   exact⟨_,_,hrun,⟨β,q1,d2.trans q2,bw.bP (.cz (.own0 aa .nil) rfl)⟩,fun base' scap he hle=>by cases he;exact⟨none,rfl⟩⟩
  ·have hrun:=run_append_grow_src (P:=P) w t t' ty e i zz hu hi hz none 0 0 [] (by simp[Builtin.firstCells]) (.slice base m cap) m (flat cf m) hsrc aa aa
    (growslice_fits aa (by rw[hib];omega))
   rw[List.nil_append]at hrun
   have hcap:0+m<=grownCap w (0+m) 0 e:=by simp[grownCap,Question.cut]
   generalize grownCap w (0+m) 0 e=C at hrun hcap
   have f1:cX (aO c st β) w β (aO c st β) w.drew β:=cX.drew
   obtain⟨d1,d2⟩:=h.drew.drop k
   have f2:=f1.trans d2
   obtain⟨q1,q2⟩:=d1.sW (D':=D') (es:=ei.size) (len:=0+m) (f:=fun i=>if i<0 then o.f i else g (i-0)) (cf:=cf) hK hD hDK aa hcap
    (fun i hi=>⟨(g4 i aa).1,by simp only[Nat.not_lt_zero,if_false,Nat.sub_zero];exact(g4 i aa).2.nY f2⟩) (Z:=Builtin.zeroCells zz.cells (C-(0+m))) (by rw[tQ,hzl]) (ty:=e)
   rw[show flat cf (0+m)=flat cf m by rw[Nat.zero_add]]at q1 q2
   refine⟨_,_,hrun,⟨β.set K (w.heap.size,C,0+m),q1,f2.trans q2,bw.bP (.cz ?_ rfl)⟩,fun base' scap he hle=>by cases he;omega⟩
   exact aQ.own (N:=(C,0+m)) (aZ.gh _ _ _) ⟨by simp,by simp⟩ hcap (.inr (by simp)) aa .nil
 obtain⟨b,off,scap,N,rfl,k1,k2,k3,k4,k5,k6⟩:=hs
 obtain⟨cs,cty,cfo,e1,e2,e3,e4,e5,e6⟩:=h.elems hk hrow k1
 have hold:∀i,i<n->(cfo i).length=ei.size/\aQ (aO c st β) w bt [o.f i] (cfo i)/\∀j v,(cfo i)[j]?=some v->cs[i*ei.size+j]?=some v:=fun i hi=>by
  have:=e6 i aa
  rwa [hes]at this
 have hnew:∀i,i<n+m->((fun i=>if i<n then cfo i else cf (i-n)) i).length=ei.size/\
   aQ (aO c st β) w bt [(fun i=>if i<n then o.f i else g (i-n)) i] ((fun i=>if i<n then cfo i else cf (i-n)) i):=fun i hi=>by
  by_cases h':i<n
  ·simp only[if_pos h'];exact⟨(hold i h').1,(hold i h').2.1⟩
  ·simp only[if_neg h'];exact g4 (i-n) aa
 by_cases hroom:n+m<=scap
 ·-- there is room
  have hrun:∃cs',(Builtin.append_ #[t,t'] ty #[.slice (some ⟨b,off,none⟩) n scap,.slice base m cap]).run P w=.ok (.slice (some ⟨b,off,none⟩) (n+m) scap) (w.setRow b cs')/\cs'.size=cs.size/\
    ∀i,i<n+m->∀j v,((fun i=>if i<n then cfo i else cf (i-n)) i)[j]?=some v->cs'[i*ei.size+j]?=some v:=by
   by_cases hm0:m=0
   ·subst hm0
    refine⟨cs,?_,rfl,fun i hi j v hv=>?_⟩
    ·rw[setRow_self w b cs cty _ e1]
     have hf:(flat cf 0).toArray=#[]:=by simp[flat]
     have hcells:=hsrc.cells
     rw[hf]at hcells
     have hn:n<=scap:=k4
     simp[Builtin.append_,run_underlying hu,run_underlying (hd'▸(hT t' ti' ht').dh),sizeOf,typeInfo,hi,Builtin.lenOf,his,hcells,hn,storeCells]
    ·have hi':i<n:=aa
     simp only[if_pos hi']at hv
     exact(hold i hi').2.2 j v hv
   ·have hoff:off=0:=by rcases k5 with k5|k5<;>omega
    subst hoff
    have hfl:=lG (cf:=cf) (m:=m) (es:=ei.size) fun i hi=>(g4 i hi).1
    have hfit:n*ei.size+m*ei.size<=cs.size:=by
     rw[e2,hes,<-Nat.add_mul];exact Nat.mul_le_mul_right _ aa
    have hst:=run_storeCells_at P b (n*ei.size) cty (flat cf m) 0 cs w e1 (by rw[hfl];simpa using hfit) (uT fun i hi=>(g4 i hi).2)
    simp only[Nat.add_zero]at hst
    refine⟨splice cs (n*ei.size) (flat cf m),?_,wT (by rw[hfl];exact hfit),fun i hi j v hv=>?_⟩
    ·have hcells:=hsrc.cells
     simp[Builtin.append_,run_underlying hu,run_underlying (hd'▸(hT t' ti' ht').dh),sizeOf,typeInfo,hi,Builtin.lenOf,his,hcells,hroom,Addr.add_lit,hst,splice]
    ·rw[mB (by rw[hfl];exact hfit),hfl]
     have hlen:=(hnew i hi).1
     have hj:j<ei.size:=by rw[<-hlen];exact(List.getElem?_eq_some_iff.1 hv).1
     by_cases h':i<n
     ·simp only[if_pos h']at hv
      have:=Nat.mul_le_mul_right ei.size (show i+1<=n by omega)
      rw[Nat.add_mul,Nat.one_mul]at this
      rw[if_neg aa]
      exact(hold i h').2.2 j v hv
     ·simp only[if_neg h']at hv
      have h5:i*ei.size=n*ei.size+(i-n)*ei.size:=by rw[<-Nat.add_mul];congr 1;omega
      have h6:=Nat.mul_le_mul_right ei.size (show(i-n)+1<=m by omega)
      rw[Nat.add_mul,Nat.one_mul]at h6
      rw[if_pos aa]
      have h7:i*ei.size+j-n*ei.size=(i-n)*ei.size+j:=aa
      rw[h7,nO (fun i hi=>(g4 i hi).1) aa hj]
      exact hv
  obtain⟨cs',hrun,hsz,hcs'⟩:=hrun
  obtain⟨q1,q2⟩:=h.extend (D':=D') (K:=K) (o':=⟨true,true,ei.size,n+m,fun i=>if i<n then o.f i else g (i-n)⟩) hk hwr hK hD hDK k1 e1 hsz hes.symm rfl (by simp only;omega)
   (fun i hi=>⟨_,(hnew i hi).1,(hnew i hi).2,hcs' i hi⟩)
  refine⟨_,_,hrun,⟨β.set K (b,N.1,n+m),q1,q2,bw.bP (.cz ?_ rfl)⟩,fun base' scap he hle=>by cases he;exact⟨_,rfl⟩⟩
  exact aQ.own (N:=(N.1,n+m)) (aZ.gh _ _ _) ⟨by simp only;omega,by simp⟩ hroom (k5.imp id (by simp)) aa .nil
 ·-- a new row
  rw[<-his]at hsrc
  have hfold:(Builtin.firstCells i.size n (.slice (some ⟨b,off,none⟩) n scap)).run P w.drew=.ok (flat cfo n).toArray w.drew:=by
   refine qk (w:=w.drew) aa (fun i hi=>by rw[(hold i hi).1,his]) ?_ n
   by_cases hn:n=0
   ·exact .inl hn
   ·refine .inr ⟨b,off,rfl,fun i hi j v hv=>?_⟩
    have hoff:off=0:=by rcases k5 with k5|k5<;>omega
    rw[World.cell?_drew,sY e1,hoff,his,Nat.zero_add]
    exact(hold i hi).2.2 j v hv
  have hrun:=run_append_grow_src (P:=P) w t t' ty e i zz hu hi hz (some ⟨b,off,none⟩) n scap (flat cfo n) hfold (.slice base m cap) m (flat cf m) hsrc aa aa
   (growslice_fits aa (by rw[hib];omega))
  rw[Eh]at hrun
  have hcap:n+m<=grownCap w (n+m) scap e:=by simp[grownCap,Question.cut]
  generalize grownCap w (n+m) scap e=C at hrun hcap
  have f1:cX (aO c st β) w β (aO c st β) w.drew β:=cX.drew
  obtain⟨d1,d2⟩:=h.drew.drop k
  have f2:=f1.trans d2
  obtain⟨q1,q2⟩:=d1.sW (D':=D') (es:=ei.size) (f:=fun i=>if i<n then o.f i else g (i-n)) (cf:=fun i=>if i<n then cfo i else cf (i-n)) hK hD hDK aa hcap
   (fun i hi=>⟨(hnew i hi).1,(hnew i hi).2.nY f2⟩) (Z:=Builtin.zeroCells zz.cells (C-(n+m))) (by rw[tQ,hzl]) (ty:=e)
  refine⟨_,_,hrun,⟨β.set K (w.heap.size,C,n+m),q1,f2.trans q2,bw.bP (.cz ?_ rfl)⟩,fun base' scap he hle=>by cases he;omega⟩
  exact aQ.own (N:=(C,n+m)) (aZ.gh _ _ _) ⟨by simp,by simp⟩ hcap (.inr (by simp)) aa .nil
include hT in
theorem abi (h:bu c st D β w) (hpre:∀k o,look k pre=some o->look k st=some o) (hD:∀k,D k->D' k) {t t' ty:TypeId} {ti ei:TI}
  (ht:look t T=some ti) {e:TypeId} (hd:ti.desc=.slice e) (he:look e T=some ei)
  {y:AV} {x:Value} (hy:bJ (aO c st β) w β y x) {m:Nat} {g:Nat->AV} (hr:readAll pre ei.size y=some (m,g))
  {k s n:Nat} {o:az} {sv:Value} (hs:bJ (aO c st β) w β (.own k ei.size s n) sv) (hk:look k st=some o) (hrow:o.row=true) (hwr:o.wr=true) (hes:o.es=ei.size):
  ∃z w',(Builtin.copy_ #[t,t'] ty #[sv,x]).run P w=.ok z w'/\
   eW c st D' β w [(k,some {o with f:=fun i=>if s<=i/\i<s+min m n then g (i-s)else o.f i})] (.int .i64 (min m n:Nat)) z w':=by
 obtain⟨i,hi,his,hib⟩:=(hT e ei he).info
 have hu:=hd▸(hT t ti ht).dh
 rcases hs.own with hs|⟨rfl,rfl,rfl,k6⟩
 rotate_left
 ·obtain⟨base,cap,cf,rfl,g1,g2,g3,g4⟩:=o8 h hpre k6 hy hr
  have hcells:=qk (P:=P) (cap:=cap) (cf:=cf) (m:=0) k6 (fun i hi=>absurd hi (Nat.not_lt_zero i)) (.inl rfl:(0:Nat)=0\/∃b o,base=some ⟨b,o,none⟩/\∀i,i<0->w.rangeAt b (o+i*ei.size) (cf i)) m
  have hf:(flat cf 0).toArray=#[]:=by simp[flat]
  rw[hf]at hcells
  have h0':m.min 0=0:=Nat.min_zero m
  have hrun:(Builtin.copy_ #[t,t'] ty #[.slice none 0 0,.slice base m cap]).run P w=.ok (goInt (min m 0:Nat)) w:=by
   rw[Nat.min_zero]
   simp[Builtin.copy_,run_underlying hu,Builtin.lenOf,sizeOf,typeInfo,hi,his,h0',hcells,storeCells]
  obtain⟨q1,q2⟩:=h.Cd (o':={o with f:=fun i=>if 0<=i/\i<0+min m 0 then g (i-0)else o.f i}) hk (by
   have:(fun i=>if 0<=i/\i<0+min m 0 then g (i-0)else o.f i)=o.f:=funext fun i=>if_neg aa
   rw[this])
  exact⟨_,_,hrun,β,q1.lK hD,q2,bw.bP (.cz (.int .nil) rfl)⟩
 obtain⟨b,off,scap,N,rfl,k1,k2,k3,k4,k5,k6⟩:=hs
 obtain⟨base,cap,cf,rfl,g1,g2,g3,g4⟩:=o8 h hpre k6 hy hr
 obtain⟨cs,cty,cfo,e1,e2,e3,e4,e5,e6⟩:=h.elems hk hrow k1
 have hcells:=qk (P:=P) (cap:=cap) (cf:=cf) (m:=min m n) k6 (fun i hi=>(g4 i aa).1) (g1.elim (fun h=>.inl aa) fun⟨b,o,p,q⟩=>.inr ⟨b,o,p,fun i hi=>q i aa⟩) m
 have hfl:=lG (cf:=cf) (m:=min m n) (es:=ei.size) fun i hi=>(g4 i aa).1
 have hfit:s*ei.size+min m n*ei.size<=cs.size:=by
  rw[e2,hes,<-Nat.add_mul];exact Nat.mul_le_mul_right _ aa
 have hrun:∃cs',(Builtin.copy_ #[t,t'] ty #[.slice (some ⟨b,off,none⟩) n scap,.slice base m cap]).run P w=.ok (goInt (min m n:Nat)) (w.setRow b cs')/\cs'=splice cs (s*ei.size) (flat cf (min m n)):=by
  by_cases h0:min m n=0
  ·refine⟨cs,?_,?_⟩
   ·rw[setRow_self w b cs cty _ e1]
    rw[h0]at hcells
    have hf:(flat cf 0).toArray=#[]:=by simp[flat]
    rw[hf]at hcells
    have h0':m.min n=0:=h0
    simp[Builtin.copy_,run_underlying hu,Builtin.lenOf,sizeOf,typeInfo,hi,his,h0',hcells,storeCells]
   ·rw[h0];simp[flat,splice]
  ·have hoff:off=s*ei.size:=by rcases k5 with k5|k5<;>omega
   subst hoff
   have hst:=run_storeCells_at P b (s*ei.size) cty (flat cf (min m n)) 0 cs w e1 (by rw[hfl];simpa using hfit) (uT fun i hi=>(g4 i aa).2)
   simp only[Nat.add_zero]at hst
   refine⟨_,?_,rfl⟩
   have hmn:m.min n=min m n:=rfl
   simp[Builtin.copy_,run_underlying hu,Builtin.lenOf,sizeOf,typeInfo,hi,his,hmn,hcells,hst,splice]
 obtain⟨cs',hrun,rfl⟩:=hrun
 have hq:=h.write (o':={o with f:=fun i=>if s<=i/\i<s+min m n then g (i-s)else o.f i}) hk hwr k1 e1 (wT (by rw[hfl];exact hfit)) rfl hwr rfl (fun i hi=>?_)
 ·refine⟨_,_,hrun,β,hq.1.lK hD,hq.2,bw.bP (.cz (.int .nil) rfl)⟩
 ·have hi':i<o.len:=hi
  obtain⟨f1,f2,f3⟩:=e6 i hi'
  by_cases hin:s<=i/\i<s+min m n
  ·refine⟨cf (i-s),?_,?_,fun j v hv=>?_⟩
   ·rw[(g4 (i-s) aa).1];exact hes.symm
   ·simp only[hrow,if_true,if_pos hin]
    exact(g4 (i-s) aa).2
   ·have hj:j<ei.size:=by rw[<-(g4 (i-s) aa).1];exact(List.getElem?_eq_some_iff.1 hv).1
    have h5:i*ei.size=s*ei.size+(i-s)*ei.size:=by rw[<-Nat.add_mul];congr 1;omega
    have h6:=Nat.mul_le_mul_right ei.size (show(i-s)+1<=min m n by omega)
    rw[Nat.add_mul,Nat.one_mul]at h6
    simp only[hes]
    rw[mB (by rw[hfl];exact hfit),hfl,if_pos aa]
    have h7:i*ei.size+j-s*ei.size=(i-s)*ei.size+j:=aa
    rw[h7,nO (fun i hi=>(g4 i aa).1) aa hj]
    exact hv
  ·refine⟨cfo i,f1,?_,fun j v hv=>?_⟩
   ·simp only[hrow,if_true,if_neg hin];exact f2
   ·have hj:j<ei.size:=by rw[<-hes,<-f1];exact(List.getElem?_eq_some_iff.1 hv).1
    simp only[hes]
    rw[mB (by rw[hfl];exact hfit),hfl,if_neg ?_]
    ·have:=f3 j v hv
     rwa [hes]at this
    ·by_cases hlt:i<s
     ·have:=Nat.mul_le_mul_right ei.size (show i+1<=s by omega)
      rw[Nat.add_mul,Nat.one_mul]at this;omega
     ·have:=Nat.mul_le_mul_right ei.size (show s+min m n<=i by omega)
      rw[Nat.add_mul]at this;omega
theorem Ca (z:Array Value):∀n,(Builtin.zeroCells z n).toList=flat (fun _=>z.toList) n:=by
 intro n
 apply List.ext_getElem?
 intro i
 have hlen:=lG (cf:=fun _=>z.toList) (es:=z.size) (m:=n) fun _ _=>by simp
 by_cases hi:i<n*z.size
 ·have hz:0<z.size:=by
   rcases Nat.eq_zero_or_pos z.size with h|h
   ·rw[h]at hi;omega
   ·exact h
  have h1:=Nat.div_lt_of_lt_mul (show i<z.size*n by rw[Nat.mul_comm];exact hi)
  have h2:=nO (cf:=fun _=>z.toList) (es:=z.size) (m:=n) (fun _ _=>by simp) h1 (Nat.mod_lt i hz)
  rw[show i/z.size*z.size+i%z.size=i by rw[Nat.mul_comm];exact Nat.div_add_mod i z.size]at h2
  rw[h2]
  have h3:=Nat.mod_lt i hz
  simp[Builtin.zeroCells,List.getElem?_range hi,h3,getElem!_pos]
 ·rw[List.getElem?_eq_none (by simp[Builtin.zeroCells];omega),List.getElem?_eq_none aa]
include hT in
theorem ae6 (h:bu c st D β w) (hD:∀k,D k->D' k) {t ty:TypeId} {ti ei:TI}
  (ht:look t T=some ti) {e:TypeId} (hd:ti.desc=.slice e) (he:look e T=some ei) (h2:ei.zero.size=ei.size) (h3:ei.zero.isTuple=false)
  {k s n:Nat} {o:az} {sv:Value} (hs:bJ (aO c st β) w β (.own k ei.size s n) sv) (hk:look k st=some o) (hrow:o.row=true) (hwr:o.wr=true) (hes:o.es=ei.size):
  ∃z w',(Builtin.clear_ #[t] ty #[sv]).run P w=.ok z w'/\
   eW c st D' β w [(k,some {o with f:=fun i=>if s<=i/\i<s+n then ei.zero else o.f i})] (.tuple []) z w':=by
 obtain⟨i,zz,hi,hz,hrep⟩:=(hT e ei he).zero h3
 have hu:=hd▸(hT t ti ht).dh
 rcases hs.own with hs|⟨rfl,rfl,rfl,k6⟩
 rotate_left
 ·have hrun:(Builtin.clear_ #[t] ty #[.slice none 0 0]).run P w=.ok (.tuple #[]) w:=by simp[Builtin.clear_,run_underlying hu]
  obtain⟨q1,q2⟩:=h.Cd (o':={o with f:=fun i=>if 0<=i/\i<0+0 then ei.zero else o.f i}) hk (by
   have:(fun i=>if 0<=i/\i<0+0 then ei.zero else o.f i)=o.f:=funext fun i=>if_neg aa
   rw[this])
  exact⟨_,_,hrun,β,q1.lK hD,q2,[],rfl,trivial⟩
 obtain⟨b,off,scap,N,rfl,k1,k2,k3,k4,k5,k6⟩:=hs
 have hzl:zz.cells.size=ei.size:=by rw[<-Array.length_toList,(hrep (aO c st β) w β).cells.length];simp[sizes,h2]
 obtain⟨cs,cty,cfo,e1,e2,e3,e4,e5,e6⟩:=h.elems hk hrow k1
 have hfl:=lG (cf:=fun _=>zz.cells.toList) (m:=n) (es:=ei.size) fun i hi=>by simpa using hzl
 have hzc:=(hrep (aO c st β) w bt).cells
 have hfit:s*ei.size+n*ei.size<=cs.size:=by
  rw[e2,hes,<-Nat.add_mul];exact Nat.mul_le_mul_right _ aa
 have hrun:∃cs',(Builtin.clear_ #[t] ty #[.slice (some ⟨b,off,none⟩) n scap]).run P w=.ok (.tuple #[]) (w.setRow b cs')/\cs'=splice cs (s*ei.size) (flat (fun _=>zz.cells.toList) n):=by
  by_cases h0:n=0
  ·subst h0
   refine⟨cs,?_,?_⟩
   ·rw[setRow_self w b cs cty _ e1]
    simp[Builtin.clear_,run_underlying hu]
   ·simp[flat,splice]
  ·have hoff:off=s*ei.size:=by rcases k5 with k5|k5<;>omega
   subst hoff
   have hst:=run_storeCells_at P b (s*ei.size) cty (flat (fun _=>zz.cells.toList) n) 0 cs w e1 (by rw[hfl];simpa using hfit) (uT (g:=fun _=>ei.zero) fun i hi=>(hrep (aO c st β) w β).cells)
   simp only[Nat.add_zero]at hst
   refine⟨_,?_,rfl⟩
   obtain⟨n',rfl⟩:∃n',n=n'+1:=⟨n-1,aa⟩
   simp[Builtin.clear_,run_underlying hu,zeroValue,typeInfo,hi,hz,Ca,hst,splice]
 obtain⟨cs',hrun,rfl⟩:=hrun
 have hq:=h.write (o':={o with f:=fun i=>if s<=i/\i<s+n then ei.zero else o.f i}) hk hwr k1 e1 (wT (by rw[hfl];exact hfit)) rfl hwr rfl (fun i hi=>?_)
 ·exact⟨_,_,hrun,β,hq.1.lK hD,hq.2,[],rfl,trivial⟩
 ·have hi':i<o.len:=hi
  obtain⟨f1,f2,f3⟩:=e6 i hi'
  by_cases hin:s<=i/\i<s+n
  ·refine⟨zz.cells.toList,?_,?_,fun j v hv=>?_⟩
   ·simp only[Array.length_toList,hzl];exact hes.symm
   ·simp only[hrow,if_true,if_pos hin]
    exact hzc
   ·have hj:j<ei.size:=by rw[<-hzl,<-Array.length_toList];exact(List.getElem?_eq_some_iff.1 hv).1
    have h5:i*ei.size=s*ei.size+(i-s)*ei.size:=by rw[<-Nat.add_mul];congr 1;omega
    have h6:=Nat.mul_le_mul_right ei.size (show(i-s)+1<=n by omega)
    rw[Nat.add_mul,Nat.one_mul]at h6
    simp only[hes]
    rw[mB (by rw[hfl];exact hfit),hfl,if_pos aa]
    have h7:i*ei.size+j-s*ei.size=(i-s)*ei.size+j:=aa
    rw[h7,nO (fun i hi=>by simpa using hzl) aa hj]
    exact hv
  ·refine⟨cfo i,f1,?_,fun j v hv=>?_⟩
   ·simp only[hrow,if_true,if_neg hin];exact f2
   ·have hj:j<ei.size:=by rw[<-hes,<-f1];exact(List.getElem?_eq_some_iff.1 hv).1
    simp only[hes]
    rw[mB (by rw[hfl];exact hfit),hfl,if_neg ?_]
    ·have:=f3 j v hv
     rwa [hes]at this
    ·by_cases hlt:i<s
     ·have:=Nat.mul_le_mul_right ei.size (show i+1<=s by omega)
      rw[Nat.add_mul,Nat.one_mul]at this;omega
     ·have:=Nat.mul_le_mul_right ei.size (show s+n<=i by omega)
      rw[Nat.add_mul]at this;omega
theorem I5 {M:Nat->Prop} {w:World} {β:aZ} {f:Nat->AV} {cf:Nat->List Value}:∀{m:Nat},(∀i,i<m->aQ M w β [f i] (cf i))->aQ M w β ((List.range m).map f) (flat cf m)
 |0,_=>by simpa [flat]using aQ.nil
 |m+1,h=>by
  rw[List.range_succ,List.map_append,p8]
  exact(I5 fun i hi=>h i aa).append (h m aa)
theorem Qr {M:Nat->Prop} {w:World} {b o es m:Nat} {cf:Nat->List Value} (hm:m≠0) (hes:0<es) (hl:∀i,i<m->(cf i).length=es) (h:∀i,i<m->gI M w b (o+i*es) (cf i)):gI M w b o (flat cf m):=by
 obtain⟨c,ty,fr,h1,h2,_⟩:=h 0 aa
 refine⟨c,ty,fr,h1,h2,fun i v hv=>?_⟩
 have hlt:=(List.getElem?_eq_some_iff.1 hv).1
 rw[lG hl]at hlt
 have hq:=Nat.div_lt_of_lt_mul (show i<es*m by rw[Nat.mul_comm];exact hlt)
 have hr:=Nat.mod_lt i hes
 have he:i/es*es+i%es=i:=by rw[Nat.mul_comm];exact Nat.div_add_mod i es
 have hg:=nO hl hq hr
 rw[he,hv]at hg
 obtain⟨c',ty',fr',g1,_,g3⟩:=h (i/es) hq
 rw[h1]at g1
 simp only[ax,Obj.cells.injEq]at g1
 obtain⟨rfl,_,_⟩:=g1
 have:=g3 (i%es) v hg.symm
 rwa [show o+i/es*es+i%es=o+i by omega]at this
include hT in
theorem afK (h:bu c st D β w) (hD:∀k,D k->D' k) {t:TypeId} {ti:TI} (ht:look t T=some ti) {m e:Nat} (hd:ti.desc=.array m e) {es n:Nat} {f:Nat->AV} {xv:Value}
  (hx:bJ (aO c st β) w β (.ak es n f) xv) (hm:m≠0) (hmn:m<=n):
  ∃z,(Instr.arrayAt t xv).run P w=.ok z w/\eW c st D' β w [] (.bn (.agg ((List.range m).map f))) z w:=by
 obtain⟨base,cap,cf,rfl,g1,g2,g3,g4,g5⟩:=hx.ak
 have hu:=hd▸(hT t ti ht).dh
 rcases g1 with g1|⟨b,o,rfl,g1⟩
 ·omega
 refine⟨.pointer (some ⟨b,o,none⟩),?_,dP h hD (bw.bP (.cz (.bn (aQ.agg (I5 fun i hi=>g5 i aa) .nil) ?_ .nil) rfl))⟩
 ·have:¬n<m:=aa
  simp[Instr.arrayAt,run_underlying hu,this]
 ·rw[List.append_nil]
  exact Qr hm g2 (fun i hi=>g4 i aa) fun i hi=>g1 i aa
end ops
section make
variable {P:Program} (w:World)
theorem QH (t tx ty e:TypeId) (i:TypeInfo) (z:Value) (ht:P.underlying t=some (.slice e)) (hk:P.underlying tx=some (.int .i64)) (hi:P.info? e=some i) (hz:i.zero=some z) (n:Nat) (h0:0<n) (hs:0<i.size)
  (h63:(n:Int)<9223372036854775808) (hb:n*i.bytes<=281474976710656) (hfit:Builtin.nextslicecap n 0*i.bytes<=281474976710656):
  (Builtin.append_ #[t,tx] ty #[.slice none 0 0,.int .i64 n]).run P w=
   .ok (.slice (some ⟨w.heap.size,0,none⟩) n (grownCap w n 0 e)) (w.drew.alloc (.cells (Builtin.zeroCells z.cells n++Builtin.zeroCells z.cells (grownCap w n 0 e-n)) e)):=by
 have hw:IntKind.i64.wrap (n:Int)=n:=by rw[IntKind.wrap_i64];omega
 have hn:¬n=0:=aa
 have hns:¬n*i.size=0:=by
  intro h;rcases Nat.mul_eq_zero.1 h with h|h<;>omega
 have h63':¬(9223372036854775807<(n:Int)):=aa
 have hb':¬(281474976710656<(n:Int)*(i.bytes:Int)):=by
  rw[<-Int.natCast_mul]
  omega
 have h48':¬(281474976710656<Builtin.nextslicecap n 0*i.bytes):=aa
 have hneg:¬((n:Int)<0):=aa
 have hf:(Builtin.firstCells i.size 0 (.slice none 0 0)).run P w.drew=.ok #[] w.drew:=by simp[Builtin.firstCells]
 set_option maxRecDepth 100000 in
 simp[Builtin.append_,run_underlying ht,run_underlying hk,sizeOf,typeInfo,zeroValue,hi,hz,asInt,asIntOf,hw,hn,hneg,h63',hb',h48',hns,Question.forced,hf,newRow,grownCap]
variable {T:Types} (hT:dJ P T) {c:Ctx} {st pre:aD} {D D':Nat->Prop} {β:aZ}
include hT in
theorem VZ (h:bu c st D β w) (hD:∀k,D k->D' k) {K:Nat} (hK:¬D K) (hDK:D' K) {t t' ty:TypeId} {ti ti' ei:TI}
  (ht:look t T=some ti) (ht':look t' T=some ti') {e:TypeId} (hd:ti.desc=.slice e) (hd':ti'.desc=.int .i64) (he:look e T=some ei) (h1:ei.size≠0) (h2:ei.zero.size=ei.size)
  (h3:ei.zero.isTuple=false) {n:Int} (n0:0<n) (n1:n.toNat*(ei.bytes+1)*2<=2^47):
  ∃z w',(Builtin.append_ #[t,t'] ty #[.slice none 0 0,.int .i64 n]).run P w=.ok z w'/\eW c st D' β w [(K,some ⟨true,true,ei.size,n.toNat,fun _=>ei.zero⟩)] (.own K ei.size 0 n.toNat) z w':=by
 obtain⟨i,zz,hi,hz,hrep⟩:=(hT e ei he).zero h3
 obtain⟨i',hi',his,hib⟩:=(hT e ei he).info
 rw[hi]at hi'
 simp only[ax]at hi'
 subst hi'
 have hzl:zz.cells.size=ei.size:=by rw[<-Array.length_toList,(hrep (aO c st β) w β).cells.length];simp[sizes,h2]
 obtain⟨m,rfl⟩:∃m:Nat,n=(m:Int):=⟨n.toNat,aa⟩
 simp only[br]at*
 have hmb:m*ei.bytes<=2^47:=Nat.le_trans (by rw[Nat.mul_assoc];exact Nat.mul_le_mul_left m aa) n1
 have hm2:m*2<=2^47:=Nat.le_trans (by rw[Nat.mul_assoc];exact Nat.mul_le_mul_left m aa) n1
 have hrun:=QH (P:=P) w t t' ty e i zz (hd▸(hT t ti ht).dh) (hd'▸(hT t' ti' ht').dh) hi hz m aa aa aa (by rw[hib];omega) (growslice_fits aa (by rw[hib];omega))
 have hcap:m<=grownCap w m 0 e:=by simp[grownCap,Question.cut]
 generalize grownCap w m 0 e=C at hrun hcap
 refine⟨_,_,hrun,β.set K (w.heap.size,C,m),?_⟩
 have e1:cX (aO c st β) w β (aO c st β) w.drew β:=cX.drew
 have ez:Builtin.zeroCells zz.cells m=(flat (fun _=>zz.cells.toList) m).toArray:=by
  apply Array.ext';rw[Ca]
 rw[ez]
 obtain⟨q1,q2⟩:=h.drew.sW (D':=D') (es:=ei.size) (f:=fun _=>ei.zero) (cf:=fun _=>zz.cells.toList) hK hD hDK aa hcap (fun i hi=>⟨by rw[Array.length_toList,hzl],(hrep _ _ _).cells⟩) (Z:=Builtin.zeroCells zz.cells (C-m)) (by rw[tQ,hzl]) (ty:=e)
 refine⟨q1,e1.trans q2,bw.bP (.cz ?_ rfl)⟩
 exact aQ.own (N:=(C,m)) (aZ.gh _ _ _) ⟨by simp,by simp⟩ hcap (.inr (by simp)) aa .nil
end make
end Go.Am
namespace Go.Am
open AV
def dm:List (Nat×Option az)->Nat->Option (Option az)
 |[],_=>none
 |(j,o)::l,k=>match dm l k with
  |some r=>some r
  |none=>if j==k then some o else none
theorem kY:∀(ct:List (Nat×Option az)) (st:aD) (k:Nat),look k (cN ct st)=match dm ct k with
  |some r=>r
  |none=>look k st
 |[],st,k=>rfl
 |(j,some o)::l,st,k=>by
  simp only[cN,kY l,dm]
  cases dm l k with
  |some r=>rfl
  |none=>
   by_cases h:j=k
   ·subst h;simp[iT]
   ·have:k≠j:=fun e=>h e.symm
    simp[h,fN this]
 |(j,none)::l,st,k=>by
  simp only[cN,kY l,dm]
  cases dm l k with
  |some r=>rfl
  |none=>
   by_cases h:j=k
   ·subst h;simp[AI]
   ·have:k≠j:=fun e=>h e.symm
    simp[h,AI,this]
def rB (P:Program) (f:FuncId) (vs:List Value) (w:World) (R:Value->World->Prop):Prop:=
 (∃fn,P.funcs[f]?=some fn/\(fn.name== "runtime.NumGoroutine")=false/\fn.body.isNone=false/\Calls P f vs.toArray w fun e w'=>∃x,e=.returned x/\R x w')\/
 (∃x,(callFunc f vs.toArray).run P w=.ok (.value x) w/\R x w)
theorem rB.mono {P:Program} {f:FuncId} {vs:List Value} {w:World} {R R':Value->World->Prop} (h:rB P f vs w R) (hr:∀x w',R x w'->R' x w'):rB P f vs w R':=by
 rcases h with⟨fn,h1,h2,h3,h4⟩|⟨x,h1,h2⟩
 ·exact .inl ⟨fn,h1,h2,h3,h4.mono fun e w' ⟨x,he,hx⟩=>⟨x,he,hr _ _ hx⟩⟩
 ·exact .inr ⟨x,h1,hr _ _ h2⟩
theorem rB.C4 {P:Program} {f:FuncId} {vs:List Value} {w:World} {R:Value->World->Prop} (h:rB P f vs w R):kE P (callFunc f vs.toArray) w R:=by
 rcases h with⟨fn,h1,h2,h3,h4⟩|⟨x,h1,h2⟩
 ·refine .inr (.inr ⟨f,vs.toArray,?_,h4⟩)
  simp only[callFunc,Sem.run_bind,run_program,Result.andThen_ok,h1,h2,h3,Bool.false_eq_true,if_false,Sem.run_pure]
 ·exact .inl ⟨x,w,h1,h2⟩
def aN (P:Program) (f:FuncId) (K:Nat) (args:List AV) (pre:aD) (r:dw):Prop:=
 r.need->(∀k o,look k r.post=some o->(∃o',look k pre=some o')\/(K<=k/\k<K+cR))/\
  ∀(c:Ctx) (D D':Nat->Prop) (β:aZ) (w:World) (vs:List Value),c.w0=w->(∀b,c.Mw b->aO c pre β b)->bu c pre D β w->(∀k,D k->D' k)->(∀k,K<=k->k<K+cR->¬D k/\D' k)->
   cH (aO c pre β) w β args vs->rB P f vs w (eW c pre D' β w (gb r.post) r.res)
theorem yQ {pre:aD} {k:Nat} {o:az}:∀{post:aD},look k (cN (gb post) pre)=some o->look k (cN (l5 post) pre)=some o:=by
 have key:∀post:aD,dm (gb post) k=dm (l5 post) k\/dm (gb post) k=some none:=by
  intro post
  induction post with
  |nil=>exact .inl rfl
  |cons p post ih=>
   obtain⟨j,a⟩:=p
   show dm ((j,_)::gb post) k=dm ((j,some a)::l5 post) k\/dm ((j,_)::gb post) k=some none
   simp only[dm]
   rcases ih with ih|ih
   ·rw[ih]
    cases h1:dm (l5 post) k with
    |some r=>exact .inl rfl
    |none=>
     by_cases hjk:j=k
     ·simp only[hjk,BEq.rfl,if_true]
      cases a.es with
      |zero=>exact .inr rfl
      |succ n=>exact .inl rfl
     ·simp[hjk]
   ·rw[ih];exact .inr rfl
 intro post h
 rw[kY]at h ⊢
 rcases key post with h1|h1
 ·rw[<-h1];exact h
 ·rw[h1]at h;simp at h
theorem aby {post:aD} {k:Nat} {r:Option az} (h:dm (gb post) k=some r):∃o,look k post=some o:=by
 induction post with
 |nil=>simp[gb,dm]at h
 |cons p post ih=>
  obtain⟨j,o⟩:=p
  simp only[gb,List.map_cons,dm]at h
  by_cases hjk:j=k
  ·exact⟨o,by simp[look,hjk]⟩
  ·cases he:dm (gb post) k with
   |some r'=>
    obtain⟨o',ho'⟩:=ih (by
     simp only[gb]at he
     rw[he]at h
     simp only[ax]at h
     rw[<-h];exact he)
    exact⟨o',by simp[look,hjk,ho']⟩
   |none=>
    simp only[gb]at he
    rw[he]at h
    simp[hjk]at h
def E4 (pre:aD) (β:aZ):Nat->Prop:=fun b=>∃k o,∃N:Nat×Nat,look k pre=some o/\o.wr=true/\β k=some (b,N)
def Ctx.inner (c:Ctx) (st pre:aD) (β:aZ) (w:World):Ctx:=⟨fun b=>aO c st β b/\¬E4 pre β b,w,E4 pre β,β,none⟩
section frame
variable {c:Ctx} {st pre:aD} {D D':Nat->Prop} {β:aZ} {w:World}
theorem EU (hpre:∀k o,look k pre=some o->look k st=some o):aO (c.inner st pre β w) pre β=aO c st β:=by
 funext b
 apply propext
 constructor
 ·rintro(h|⟨k,o,N,h1,h2,h3⟩)
  ·exact h.1
  ·exact .inr ⟨k,o,N,hpre k o h1,h2,h3⟩
 ·intro h
  by_cases hp:E4 pre β b
  ·exact .inr hp
  ·exact .inl ⟨h,hp⟩
def uu (pre:aD) (β:aZ) (k:Nat):Prop:=β k≠none\/look k pre≠none
theorem Jq (h:bu c st D β w) (hpre:∀k o,look k pre=some o->look k st=some o) {k:Nat} (hk:uu pre β k):D k:=by
 cases hb:β k with
 |some x=>exact h.dom k x hb
 |none=>
  rcases hk with hk|hk
  ·exact absurd hb hk
  ·cases hl:look k pre with
   |none=>exact absurd hl hk
   |some o=>exact(h.dM k o (hpre k o hl) hb).2
theorem bu.inner (h:bu c st D β w) (hpre:∀k o,look k pre=some o->look k st=some o):bu (c.inner st pre β w) pre (uu pre β) β w where
 obj k o hk x hx:=by rw[EU hpre];exact h.obj k o (hpre k o hk) x hx
 dM k o hk hb:=⟨(h.dM k o (hpre k o hk) hb).1,.inr (by rw[hk];simp)⟩
 inj k k' o o' b N N' h1 h2:=h.inj k k' o o' b N N' (hpre _ _ h1) (hpre _ _ h2)
 dom k x hk:=.inl (by rw[hk];simp)
 keep _ _ h:=h
 lt:=h.lt
 os:=rfl
 tape:=rfl
 output:=rfl
 size:=aR
 block _ _ _:=rfl
 gB b hb:=by
  refine⟨?_,hb.2⟩
  rcases hb.1 with h1|⟨k,o,N,_,_,h3⟩
  ·exact Nat.lt_of_lt_of_le (h.gB b h1).1 h.size
  ·exact h.lt k b N h3
 new k o b N h1 h2 h3:=.inr ⟨k,o,N,h1,h2,h3⟩
theorem eW.outer (h:bu c st D β w) (hpre:∀k o,look k pre=some o->look k st=some o) (hD:∀k,D k->D' k) {K:Nat} (hK:∀k,K<=k->k<K+cR->¬D k/\D' k) {ct:List (Nat×Option az)}
  (heff:∀k r,dm ct k=some r->(∃o',look k pre=some o')\/(K<=k/\k<K+cR)) {v:AV} {x:Value} {w':World} (hr:eW (c.inner st pre β w) pre (fun k=>uu pre β k\/(K<=k/\k<K+cR)) β w ct v x w'):eW c st D' β w ct v x w':=by
 obtain⟨β',g,e,hv⟩:=hr
 have hDD:∀k,(uu pre β k\/(K<=k/\k<K+cR))->D' k:=fun k hk=>hk.elim (fun hk=>hD k (Jq h hpre hk)) fun hk=>(hK k hk.1 hk.2).2
 have hout:∀k,D k->β k=none->look k pre=none->β' k=none:=fun k hk hb hp=>by
  cases hb':β' k with
  |none=>rfl
  |some x=>
   rcases g.dom k x hb' with(h1|h1)|h1
   ·exact absurd hb h1
   ·exact absurd hp h1
   ·exact absurd hk (hK k h1.1 h1.2).1
 -- inside or outside
 have hcase:∀k,(look k (cN ct pre)=look k (cN ct st))\/(dm ct k=none/\look k pre=none/\look k (cN ct st)=look k st):=fun k=>by
  simp only[kY]
  cases he:dm ct k with
  |some r=>exact .inl rfl
  |none=>
   cases hp:look k pre with
   |some o=>exact .inl (hpre k o hp).symm
   |none=>exact .inr ⟨rfl,rfl,rfl⟩
 have hrest:∀k o b N,look k st=some o->look k pre=none->o.wr=true->β k=some (b,N)->(c.inner st pre β w).Mf b:=fun k o b N h1 h2 h3 h4=>by
  refine⟨.inr ⟨k,o,N,h1,h3,h4⟩,fun⟨k2,o2,N2,p1,p2,p3⟩=>?_⟩
  have:=h.inj k k2 o o2 b N N2 h1 (hpre _ _ p1) h3 h4 p3
  subst this
  rw[h2]at p1;simp at p1
 have hβ:∀k o b N,look k st=some o->look k pre=none->β' k=some (b,N)->β k=some (b,N):=fun k o b N h1 hp h2=>by
  cases hb:β k with
  |none=>rw[hout k (h.dM k o h1 hb).2 hb hp]at h2;simp at h2
  |some y=>
   have:=e.keys k _ hb
   rw[h2]at this
   exact this.symm
 have hM:aO (c.inner st pre β w) (cN ct pre) β'=aO c (cN ct st) β':=by
  funext b
  apply propext
  constructor
  ·rintro(⟨h1,h2⟩|⟨k,o,N,h1,h2,h3⟩)
   ·rcases h1 with h1|⟨k,o,N,k1,k2,k3⟩
    ·exact .inl h1
    ·have hkp:look k pre=none:=by
      cases hp:look k pre with
      |none=>rfl
      |some o'=>
       have:=hpre k o' hp
       rw[k1]at this
       simp only[ax]at this
       subst this
       exact absurd ⟨k,o,N,hp,k2,k3⟩ h2
     have hek:dm ct k=none:=by
      cases he:dm ct k with
      |none=>rfl
      |some r=>
       rcases heff k r he with⟨o',ho'⟩|hk
       ·rw[hkp]at ho';simp at ho'
       ·exact absurd (h.dom k _ k3) (hK k hk.1 hk.2).1
     exact .inr ⟨k,o,N,by rw[kY,hek];exact k1,k2,e.keys _ _ k3⟩
   ·rcases hcase k with hc|⟨_,hc,hc2⟩
    ·exact .inr ⟨k,o,N,by rw[<-hc];exact h1,h2,h3⟩
    ·rw[kY]at h1
     cases he:dm ct k with
     |some r=>rw[kY,he]at hc2;rw[he]at h1;exact .inr ⟨k,o,N,by rw[kY,he];exact h1,h2,h3⟩
     |none=>rw[he,hc]at h1;simp at h1
  ·rintro(h1|⟨k,o,N,h1,h2,h3⟩)
   ·exact .inl ⟨.inl h1,fun⟨k,o,N,p1,p2,p3⟩=>h.zB (hpre _ _ p1) p2 p3 h1⟩
   ·rcases hcase k with hc|⟨_,hc,hc2⟩
    ·exact .inr ⟨k,o,N,by rw[hc];exact h1,h2,h3⟩
    ·rw[hc2]at h1
     exact .inl (hrest k o b N h1 hc h2 (hβ k o b N h1 hc h3))
 have e':cX (aO c st β) w β (aO c (cN ct st) β') w' β':=by
  rw[<-hM,<-EU (c:=c) (w:=w) hpre];exact e
 have hsame:∀k o b N,look k st=some o->look k pre=none->β k=some (b,N)->w'.heap[b]?=w.heap[b]?:=fun k o b N h1 h2 h3=>by
  refine g.block b (h.lt k b N h3) fun⟨k2,o2,N2,p1,p2,p3⟩=>?_
  have hp:=hpre _ _ p1
  have:=h.inj k2 k o2 o b N2 N hp h1 p2 p3 h3
  subst this
  rw[h2]at p1;simp at p1
 refine⟨β',?_,e',?_⟩
 ·refine {obj:=?_,dM:=fun k o hk hb=>?_,inj:=?_,dom:=fun k x hk=>hDD k (g.dom k x hk),keep:=fun k x hk=>e'.keys _ _ (h.keep k x hk),lt:=g.lt,os:=g.os.trans h.os,tape:=g.tape.trans h.tape,output:=g.output.trans h.output,size:=Nat.le_trans h.size g.size,block:=?_,gB:=h.gB,new:=?_}
  ·intro k o hk x hx
   rcases hcase k with hc|⟨_,hc,hc2⟩
   ·rw[<-hM];exact g.obj k o (by rw[hc];exact hk) x hx
   ·rw[hc2]at hk
    refine(h.obj k o hk x (hβ k o x.1 x.2 hk hc hx)).iE e' (fun b N cs ty hb hx=>by rw[hsame k o b N hk hc hb];exact hx) (fun b N hb hw=>?_)
    rw[<-hM];exact .inl (hrest k o b N hk hc hw hb)
  ·rcases hcase k with hc|⟨_,hc,hc2⟩
   ·have:=g.dM k o (by rw[hc];exact hk) hb
    exact⟨this.1,hDD k this.2⟩
   ·rw[hc2]at hk
    cases hb2:β k with
    |none=>exact⟨(h.dM k o hk hb2).1,hD k (h.dM k o hk hb2).2⟩
    |some y=>rw[e.keys k y hb2]at hb;simp at hb
  ·intro k k' o o' b N N' h1 h2 hw hb hb'
   rcases hcase k with hc|⟨_,hc,hc2⟩
   ·rcases hcase k' with hc'|⟨_,hc',hc2'⟩
    ·exact g.inj k k' o o' b N N' (by rw[hc];exact h1) (by rw[hc'];exact h2) hw hb hb'
    ·rw[hc2']at h2
     have hk1:look k (cN ct pre)=some o:=by rw[hc];exact h1
     have hbb:=hβ k' o' b N' h2 hc' hb'
     by_cases hw':o'.wr=true
     ·exact absurd (hrest k' o' b N' h2 hc' hw' hbb) (g.zB hk1 hw hb)
     ·obtain⟨b1,N1,cs,ty,a1,a2,a3,a4,a5,a6,a7,_⟩:=h.obj k' o' h2 _ hbb
      rw[hbb]at a1
      simp only[ax,Prod.mk.injEq]at a1
      obtain⟨rfl,rfl⟩:=a1
      have:=(e'.heap b _ (a7 (by simpa using hw')) a2).2
      exact absurd (.inr ⟨k,o,N,h1,hw,hb⟩) this
   ·rw[hc2]at h1
    have hbk:=hβ k o b N h1 hc hb
    have hmf:=hrest k o b N h1 hc hw hbk
    rcases hcase k' with hc'|⟨_,hc',hc2'⟩
    ·have hk2:look k' (cN ct pre)=some o':=by rw[hc'];exact h2
     by_cases hw':o'.wr=true
     ·exact absurd hmf (g.zB hk2 hw' hb')
     ·obtain⟨b1,N1,cs,ty,a1,a2,a3,a4,a5,a6,a7,_⟩:=g.obj k' o' hk2 _ hb'
      rw[hb']at a1
      simp only[ax,Prod.mk.injEq]at a1
      obtain⟨rfl,rfl⟩:=a1
      exact absurd (.inl hmf) (a7 (by simpa using hw'))
    ·rw[hc2']at h2
     exact h.inj k k' o o' b N N' h1 h2 hw hbk (hβ k' o' b N' h2 hc' hb')
  ·intro b hb hm
   rw[<-h.block b hb hm]
   refine g.block b (Nat.lt_of_lt_of_le hb h.size) fun⟨k2,o2,N2,p1,p2,p3⟩=>?_
   rcases h.new k2 o2 b N2 (hpre _ _ p1) p2 p3 with h1|h1
   ·omega
   ·exact hm h1
  ·intro k o b N hk hw hb
   rcases hcase k with hc|⟨_,hc,hc2⟩
   ·rcases g.new k o b N (by rw[hc];exact hk) hw hb with h1|⟨k2,o2,N2,p1,p2,p3⟩
    ·left
     have h2:w.heap.size<=b:=h1
     have:=h.size;omega
    ·exact h.new k2 o2 b N2 (hpre _ _ p1) p2 p3
   ·rw[hc2]at hk
    exact h.new k o b N hk hw (hβ k o b N hk hc hb)
 ·rw[<-hM];exact hv
theorem aN.use {P:Program} {f:FuncId} {K:Nat} {args:List AV} {r:dw} (hf:aN P f K args pre r) (need:r.need) (h:bu c st D β w) (hpre:∀k o,look k pre=some o->look k st=some o)
  (hD:∀k,D k->D' k) (hK:∀k,K<=k->k<K+cR->¬D k/\D' k) {vs:List Value} (hv:cH (aO c st β) w β args vs):rB P f vs w (eW c st D' β w (gb r.post) r.res):=by
 obtain⟨hpost,hf⟩:=hf need
 refine(hf (c.inner st pre β w) (uu pre β) (fun k=>uu pre β k\/(K<=k/\k<K+cR)) β w vs rfl (fun b hb=>.inr hb) (h.inner hpre) (fun _ h=>.inl h) (fun k h1 h2=>⟨fun h3=>(hK k h1 h2).1 (Jq h hpre h3),.inr ⟨h1,h2⟩⟩) (by rw[EU hpre];exact hv)).mono fun x w' hx=>?_
 refine hx.outer h hpre hD hK (fun k r hr=>?_)
 obtain⟨o,ho⟩:=aby hr
 exact hpost k o ho
theorem aN.frame {P:Program} {f:FuncId} {K:Nat} {args:List AV} {r:dw} {pre':aD} (hf:aN P f K args pre r) (hp:∀k o,look k pre=some o->look k pre'=some o):aN P f K args pre' r:=by
 intro need
 refine⟨fun k o ho=>?_,fun c D D' β w vs _ _ h hD hK hv=>hf.use need h hp hD hK hv⟩
 rcases(hf need).1 k o ho with⟨o',h1⟩|h1
 ·exact .inl ⟨o',hp k o' h1⟩
 ·exact .inr h1
end frame
end Go.Am
namespace Go.Am
open AV
def bg (P:Program) (Γ:aV):Prop:=∀f s,look f Γ=some s->∀K args pre r,s K args pre=some r->aN P f K args pre r
section ops
variable {P:Program} {T:Types} (hT:dJ P T) {Γ:aV} (hΓ:bg P Γ)
variable {c:Ctx} {st pre:aD} {D D':Nat->Prop} {β:aZ} {w:World}
theorem mW {M:Nat->Prop} {ρ:Operand->Option AV} {ev:Operand->Value} (hρ:∀x v,ρ x=some v->bJ M w β v (ev x)):
  ∀{l:List Operand} {vs:List AV},eM ρ l=some vs->cH M w β vs (l.map ev)
 |[],vs,h=>by simp only[eM,ax]at h;subst h;exact trivial
 |x::l,vs,h=>by
  simp only[eM]at h
  cases hx:ρ x with
  |none=>grind
  |some a=>
   cases hl:eM ρ l with
   |none=>grind
   |some m=>
    rw[hx,hl]at h
    simp only at h
    split at h
    ·grind
    ·simp at h
     subst h
     exact⟨(hρ x a hx).one (by grind),mW hρ hl⟩
theorem cH.append {M:Nat->Prop}:∀{l m:List AV} {xs ys:List Value},cH M w β l xs->cH M w β m ys->cH M w β (l++m) (xs++ys)
 |[],_,[],_,_,h=>h
 |_::_,_,_::_,_,h,h'=>⟨h.1,cH.append h.2 h'⟩
 |[],_,_::_,_,h,_=>h.elim
 |_::_,_,[],_,h,_=>h.elim
theorem Nm {M:Nat->Prop}:∀{l:List AV} {vs:List Value},aQ M w β l vs->(l.all fun v=>!v.isAgg&&!v.isTuple)=true->cH M w β l vs
 |[],vs,h,_=>by cases h;exact trivial
 |a::l,vs,h,hall=>by
  obtain⟨c1,c2,rfl,h1,h2⟩:=h.split
  simp only[List.all_cons,Bool.and_eq_true,Bool.not_eq_true']at hall
  have hl:c1.length=1:=by
   rw[h1.length]
   have:=hall.1.1
   cases a<;>first|rfl|cases this
  obtain⟨x,rfl⟩:∃x,c1=[x]:=by
   match c1,hl with
   |[x],_=>simp
  exact⟨.cz h1 hall.1.1,Nm h2 hall.2⟩
theorem cH.Fy {M:Nat->Prop}:∀{l:List AV} {xs:List Value},cH M w β l xs->(l.all fun v=>!v.isAgg&&!v.isTuple)=true->aQ M w β l xs
 |[],[],_,_=>.nil
 |a::l,x::xs,h,hall=>by
  simp only[List.all_cons,Bool.and_eq_true,Bool.not_eq_true']at hall
  have:=aQ.cons (h.1.cell hall.1.1) (cH.Fy h.2 hall.2)
  grind
 |[],_::_,h,_=>h.elim
 |_::_,[],h,_=>h.elim
theorem cH.two {M:Nat->Prop} {a b:AV} {xs:List Value} (h:cH M w β [a,b] xs):∃x y,xs=[x,y]/\bw M w β a x/\bw M w β b y:=by
 match xs,h with
 |[x,y],h=>exact⟨x,y,rfl,h.1,h.2.1⟩
theorem cH.single {M:Nat->Prop} {a:AV} {xs:List Value} (h:cH M w β [a] xs):∃x,xs=[x]/\bw M w β a x:=by
 match xs,h with
 |[x],h=>exact⟨x,rfl,h.1⟩
theorem cH.get {M:Nat->Prop}:∀{l:List AV} {xs:List Value},cH M w β l xs->∀(i:Nat) (v:AV),l[i]?=some v->∃x,xs[i]?=some x/\bw M w β v x
 |[],[],_,i,v,h=>by grind
 |a::l,x::xs,h,0,v,hi=>by simp at hi;subst hi;exact⟨x,rfl,h.1⟩
 |a::l,x::xs,h,i+1,v,hi=>by simpa using cH.get h.2 i v (by grind)
 |[],_::_,h,_,_,_=>h.elim
 |_::_,[],h,_,_,_=>h.elim
theorem bw.zc {M:Nat->Prop} {k:IntKind} {n:Int} {x:Value} (h:bw M w β (.int k n) x):x=.int k n:=bJ.int h
theorem Ul {M:Nat->Prop} {v:AV} {x:Value} (hv:bw M w β v x) {n:Nat} (hn:lenOf v=some n):∃base cap,x=.slice base n cap:=by
 cases v<;>simp only[lenOf,ax,reduceCtorEq]at hn
 case ak=>subst hn;obtain⟨base,cap,_,rfl,_⟩:=hv.bP.ak;simp
 case mag=>subst hn;obtain⟨base,cap,rfl,_⟩:=hv.bP.mag;simp
 case own=>
  subst hn
  rcases hv.bP.own with⟨b,o,cap,_,rfl,_⟩|⟨rfl,_,rfl,_⟩
  all_goals simp
 case nil=>have:=hv.bP.nil;grind
include hT in
theorem acV {M:Nat->Prop} {t:TypeId} {ti ei:TI} (ht:look t T=some ti) {e:TypeId} (hd:ti.desc=.slice e) (he:look e T=some ei) {v:AV} {x:Value} (hv:bw M w β v x)
  {ρ:Operand->Option AV} {ev:Operand->Value} (hρ:∀x v,ρ x=some v->bJ M w β v (ev x)) {lo hi mx:Option Operand} {l h m:Int} {n:Nat} (hn:lenOf v=some n)
  (hl:cK ρ 0 lo=some l) (hh:cK ρ n hi=some h) (hm:cK ρ h mx=some m) (h0:0<=l) (h1:l<=h) (h2:h<=m) (h3:m<=n) (hmx:mx.isSome=true->hi.isSome=true):
  ∀u,ry ei.size v l.toNat h.toNat=some u->
   ∃y,(Instr.sliceAt t x (lo.map ev) (hi.map ev) (mx.map ev)).run P w=.ok y w/\bw M w β u y:=by
 intro u hu
 have main:∀base cap,x=.slice base n cap->n<=cap->∃m':Nat,(Instr.sliceAt t x (lo.map ev) (hi.map ev) (mx.map ev)).run P w=
   .ok (.slice (if m'=l.toNat then base else base.map (·.add (l.toNat*ei.size))) (h.toNat-l.toNat) (m'-l.toNat)) w/\h.toNat<=m'/\m'<=cap:=fun base cap hx hc=>by
  obtain⟨m',q1,q2,q3⟩:=acW (P:=P) hρ hl hh hm h0 h1 h2 h3 hc hmx
  subst hx
  exact⟨m',wX hT ht hd he q1,q2,q3⟩
 cases v with
 |ak es n' f=>
  simp only[lenOf,ax]at hn
  subst hn
  simp only[ry]at hu
  split at hu
  ·simp at hu
   subst hu
   obtain⟨base,cap,cf,rfl,g1,g2,g3,g4,g5⟩:=hv.bP.ak
   obtain⟨m',q1,q2,q3⟩:=main base cap rfl g3
   refine⟨_,q1,.cz (.ak (cf:=fun i=>cf (i+l.toNat)) ?_ g2 aa (fun i hi=>g4 _ aa) (fun i hi=>g5 _ aa) .nil) rfl⟩
   by_cases hz:h.toNat-l.toNat=0
   ·omega
   ·right
    rcases g1 with g1|⟨b,o,rfl,g1⟩
    ·omega
    ·refine⟨b,o+l.toNat*ei.size,?_,fun i hi=>?_⟩
     ·rw[if_neg aa];simp[Addr.add_mid]
     grind
  grind
 |mag N=>
  simp only[lenOf,ax]at hn
  subst hn
  simp only[ry]at hu
  split at hu
  ·simp at hu
   subst hu
   obtain⟨base,cap,rfl,g1,g2⟩:=hv.bP.mag
   obtain⟨m',q1,q2,q3⟩:=main base cap rfl g2
   refine⟨_,q1,.cz (.ak (cf:=fun i=>[.int .u32 (aB N (i+l.toNat))]) ?_ aa aa (fun i hi=>rfl) (fun i hi=>.int .nil) .nil) rfl⟩
   by_cases hz:h.toNat-l.toNat=0
   ·omega
   ·right
    rcases g1 with g1|⟨b,o,rfl,g1⟩
    ·subst g1;rw[uc]at h3;omega
    ·refine⟨b,o+l.toNat*ei.size,?_,fun i hi=>?_⟩
     ·rw[if_neg aa];simp[Addr.add_mid]
     ·obtain⟨cs,ty,fr,p1,p2,p3⟩:=g1
      refine⟨cs,ty,fr,p1,p2,fun j v hv=>?_⟩
      have:=p3 _ _ (yO (N:=N) (i:=i+l.toNat) aa)
      grind
  grind
 |own k es s n'=>
  simp only[lenOf,ax]at hn
  subst hn
  simp only[ry]at hu
  split at hu
  ·simp at hu
   subst hu
   rcases hv.bP.own with g|⟨rfl,rfl,rfl,g6⟩
   rotate_left
   ·grind
   obtain⟨b,o,cap,N,rfl,g1,g2,g3,g4,g5,g6⟩:=g
   obtain⟨m',q1,q2,q3⟩:=main _ cap rfl g4
   refine⟨_,q1,?_⟩
   by_cases hz:m'=l.toNat
   ·rw[if_pos hz]
    exact .cz (.own g1 ⟨aa,aa⟩ aa (.inl aa) g6 .nil) rfl
   ·rw[if_neg hz]
    simp only[Option.map_some,Addr.add_mid]
    refine .cz (.own g1 ⟨aa,aa⟩ aa (.inr ?_) g6 .nil) rfl
    grind
  grind
 |nil=>
  simp only[lenOf,ax]at hn
  simp only[ry,ax]at hu
  have:=hv.bP.nil
  grind
 |_=>simp[lenOf]at hn
theorem Uq {M:Nat->Prop} {ρ:Operand->Option AV} {ev:Operand->Value} (hρ:∀x v,ρ x=some v->bJ M w β v (ev x)) {lo hi:Option Operand} {l h:Int} {n:Nat}
  (hl:cK ρ 0 lo=some l) (hh:cK ρ n hi=some h) (h0:0<=l) (h1:l<=h) (h3:h<=n):
  (Instr.sliceBounds false n n (lo.map ev) (hi.map ev) none).run P w=.ok (l.toNat,h.toNat,n) w:=by
 rcases jh hρ hh with⟨rfl,rfl⟩|⟨kh,oh,rfl,hoh⟩
 ·rcases jh hρ hl with⟨rfl,rfl⟩|⟨kl,ol,rfl,hol⟩
  ·rfl
  ·simp[Instr.sliceBounds,hol,iZ kl l n .sliceB h0 h1]
 ·have b2:=iZ (P:=P) (w:=w) kh h n .sliceAlen aa aa
  rcases jh hρ hl with⟨rfl,rfl⟩|⟨kl,ol,rfl,hol⟩
  ·simp[Instr.sliceBounds,hoh,b2]
  ·simp[Instr.sliceBounds,hol,hoh,b2,iZ kl l h.toNat .sliceB h0 aa]
include hT in
theorem ZH (h:bu c st D β w) (hpre:∀k o,look k pre=some o->look k st=some o) (hD:∀k,D k->D' k) {t:TypeId} {ti ei:TI} (ht:look t T=some ti) {n:Nat} {e:TypeId} (hd:ti.desc=.array n e) (he:look e T=some ei) {v:AV} {x:Value} (hv:bJ (aO c st β) w β v x)
  {ρ:Operand->Option AV} {ev:Operand->Value} (hρ:∀x v,ρ x=some v->bJ (aO c st β) w β v (ev x)) {lo hi:Option Operand} {l b:Int}
  (hl:cK ρ 0 lo=some l) (hh:cK ρ n hi=some b) {r:eu} (hr:Ai pre ei n v l b=some r) (need:r.need):
  ∃y,(Instr.sliceAt t x (lo.map ev) (hi.map ev) none).run P w=.ok y w/\eW c st D' β w r.ct r.val y w:=by
 unfold Ai at hr
 split at hr
 ·rename_i k idx es off path
  split at hr
  ·rename_i o hk
   split at hr
   ·rename_i m hg
    split at hr
    ·rename_i hc
     simp at hr
     subst hr
     simp at hc
     obtain⟨⟨⟨⟨⟨c1,c2⟩,c3⟩,c4⟩,c5⟩,c6⟩:=hc
     obtain⟨n1,n2,n3,n4⟩:=need
     obtain⟨blk,N,hb,rfl⟩:=hv.ptr
     have hk':=hpre k o hk
     obtain⟨hw,hev⟩:=h.freeze hk'
     obtain⟨cs,ty,ps,e1,e2,e3,e4,e5,e6,_⟩:=h.elem hk' hb n1
     obtain⟨pr,cc,po,rfl,q1,q2,_⟩:=aQ.path path e3 _ hg
     have q3:aQ (aO c st β) w β m cc:=by simpa [AV.kids]using q2.lift.kids rfl
     have q4:aQ (aO c st β) w bt m cc:=zU q3 c4
     have hfr:¬aO c (put k {o with wr:=false} st) β blk:=by
      obtain⟨b1,N1,cs1,ty1,a1,a2,_,_,_,_,a7,_⟩:=hw.obj k _ iT _ hb
      grind
     obtain⟨inf,hi',his,_⟩:=(hT e ei he).info
     have hu:=hd▸(hT t ti ht).dh
     refine⟨.slice (some (if n=l.toNat then⟨blk,idx*es+off,none⟩else Addr.add ⟨blk,idx*es+off,none⟩ (l.toNat*ei.size))) (b.toNat-l.toNat) (n-l.toNat),?_,β,hw.lK hD,hev,?_⟩
     ·simp[Instr.sliceAt,run_underlying hu w,Instr.sureAddr,Uq (P:=P) hρ hl hh n2 n3 n4,sizeOf,typeInfo,hi',his]
     ·refine bw.bP (.cz ?_ rfl)
      obtain⟨g,hgl,hgr,hgm⟩:∃g:Nat->List Value,(∀i,i<n->(g i).length=ei.size)/\(∀i,i<n->aQ (aO c st β) w bt [nth m ei.zero i] (g i))/\∀i,i<n->∀j v,(g i)[j]?=some v->cc[i*ei.size+j]?=some v:=by
       have:∀i,∃ps:List Value,i<n->ps.length=ei.size/\aQ (aO c st β) w bt [nth m ei.zero i] ps/\∀j v,ps[j]?=some v->cc[i*ei.size+j]?=some v:=fun i=>by
        by_cases hi:i<n
        ·obtain⟨ps,p1,p2,p3⟩:=aQ.nth (z:=ei.zero) q4 c3 i aa
         exact⟨ps,fun _=>⟨p1,p2,p3⟩⟩
        ·exact⟨[],fun h=>absurd h hi⟩
       obtain⟨g,hg⟩:=Classical.skolem.1 this
       exact⟨g,fun i hi=>(hg i hi).1,fun i hi=>(hg i hi).2.1,fun i hi=>(hg i hi).2.2⟩
      have hin:∀i,i<n->gI (aO c (put k {o with wr:=false} st) β) w blk (idx*es+off+i*ei.size) (g i):=fun i hi=>⟨cs,ty,_,e1,hfr,fun j u hu=>by
       have h1:=hgm i hi j u hu
       have h2:=Ee e4 _ u h1
       rw[c1,q1,c2,<-Nat.add_assoc]at h2
       exact h2⟩
      by_cases hz:n=l.toNat
      ·exact .ak (cf:=fun i=>g (i+l.toNat)) (.inl aa) aa aa (fun i hi=>aa) (fun i hi=>aa) .nil
      ·rw[if_neg hz]
       refine .ak (cf:=fun i=>g (i+l.toNat)) (.inr ⟨blk,idx*es+off+l.toNat*ei.size,by simp[Addr.add_mid],fun i hi=>?_⟩) aa aa (fun i hi=>hgl _ aa) (fun i hi=>(hgr _ aa).nY hev) .nil
       have:=hin (i+l.toNat) aa
       rwa [Nat.add_mul,Nat.add_comm (i*ei.size),<-Nat.add_assoc]at this
    grind
   grind
  grind
 grind
end ops
end Go.Am
