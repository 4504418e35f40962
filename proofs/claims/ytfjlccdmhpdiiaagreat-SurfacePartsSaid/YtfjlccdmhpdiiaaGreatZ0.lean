/- The abstract machine: values, stores, the evaluator of regions and of code. Plain definitions; nothing is proved here. -/
import Derived.Orders
import Derived.Laws.Tables
import Derived.Laws.CopyRow
import Derived.Deep.AppendSrc
import Derived.Laws.MakeOwn
import Derived.Laws.Cells
import Derived.Deep.MidRow
import Derived.OrdersIn
import Derived.Laws.Small
import Derived.Laws.Slices
set_option linter.unusedVariables false
namespace Go.Am
theorem aa {p:Prop} (h:p:=by omega):p:=h
theorem ay.{u} {α:Type u} {a b:α}:(some a=some b)=(a=b):=Option.some.injEq a b
theorem bk {p:Prop} [Decidable p]:(decide p=true)=p:=decide_eq_true_eq
theorem bt {p:Prop} {x:Decidable p}:decide p=false↔¬p:=decide_eq_false_iff_not
theorem bz {n:Nat}:n<=n:=Nat.le_refl n
theorem bf {n:Nat}:(n:Int).toNat=n:=Int.toNat_natCast n
inductive AV where
 |bool (b:Bool)
 |int (k:IntKind) (n:Int)
 |rat (q:Rat) (n:Nat)
 |mag (N:Nat)
 |agg (l:List AV)
 |ak (es:Nat) (n:Nat) (f:Nat->AV)
 |eR (b:Bool) (es:Nat) (n:Nat) (f:Nat->AV)
 |nil
 |void
 |str (s:List UInt8)
 |bg (v:AV)
 |ptr (k idx es off:Nat) (path:List Nat)
 |own (k es start len:Nat)
 |func (f:FuncId) (caps:List AV)
 |tuple (l:List AV)
 |bO (c:Nat) (v:AV)
def nl (N:Nat):Nat:=if N=0 then 0 else N.log2/32+1
def aD (N i:Nat):Nat:=N/2^(32*i)%2^32
namespace AV
mutual
def size:AV->Nat
 |.rat _ _=>3
 |.agg l=>sizes l
 |_=>1
def sizes:List AV->Nat
 |[]=>0
 |a::l=>size a+sizes l
end
def isAgg:AV->Bool
 |.rat _ _=>true
 |.agg _=>true
 |_=>false
def isTuple:AV->Bool
 |.tuple _=>true
 |_=>false
def kids:AV->List AV
 |.rat q _=>[.bool (decide (q<0)),.mag q.num.natAbs,.mag (if q.den=1 then 0 else q.den)]
 |.agg l=>l
 |_=>[]
def o8:AV->List Nat->Option AV
 |v,[]=>some v
 |v,i::p=>match v.kids[i]? with
  |some c=>o8 c p
  |none=>none
def sL:AV->List Nat->Nat
 |_,[]=>0
 |v,i::p=>match v.kids[i]? with
  |some c=>sizes (v.kids.take i)+sL c p
  |none=>0
def tc:AV->List Nat->AV->Option AV
 |_,[],x=>some x
 |v,i::p,x=>match v.kids[i]? with
  |some c=>match tc c p x with
   |some c'=>some (.agg (v.kids.set i c'))
   |none=>none
  |none=>none
mutual
def keys:AV->List Nat
 |.ptr k _ _ _ _=>[k]
 |.own k _ _ _=>[k]
 |.agg l=>bH l
 |.func _ l=>bH l
 |.tuple l=>bH l
 |.bO _ v=>keys v
 |_=>[]
def bH:List AV->List Nat
 |[]=>[]
 |a::l=>keys a++bH l
end
end AV
structure au where
 row:Bool
 wr:Bool
 es:Nat
 len:Nat
 f:Nat->AV
abbrev aC:=List (Nat×au)
def look {α:Type} (k:Nat):List (Nat×α)->Option α
 |[]=>none
 |(j,a)::l=>if j==k then some a else look k l
def put {α:Type} (k:Nat) (a:α):List (Nat×α)->List (Nat×α)
 |[]=>[(k,a)]
 |(j,b)::l=>if j==k then(k,a)::l else(j,b)::put k a l
def cut {α:Type} (k:Nat):List (Nat×α)->List (Nat×α)
 |[]=>[]
 |(j,b)::l=>if j==k then cut k l else(j,b)::cut k l
def az:List Prop->Prop
 |[]=>True
 |[p]=>p
 |p::l=>p/\az l
structure dI where
 res:AV
 post:aC
 iV:List Prop
def dI.need (r:dI):Prop:=az r.iV
abbrev Spec:=Nat->List AV->aC->Option dI
abbrev aX:=List (FuncId×Spec)
structure TI where
 desc:TypeDesc
 size:Nat
 bytes:Nat
 zero:AV
abbrev Types:=List (TypeId×TI)
def mU:TypeDesc->Bool
 |.struct _=>true
 |.array _ _=>true
 |_=>false
structure fk where
 val:AV
 cu:List (Nat×Option au)
 iV:List Prop
def fk.need (r:fk):Prop:=az r.iV
def cq (v:AV):Option fk:=some ⟨v,[],[]⟩
mutual
def dj (st:aC):AV->Option AV
 |.own k es s n=>match look k st with
  |some o=>if o.row&&!o.wr&&o.es==es then some (.ak es n fun i=>o.f (i+s))else none
  |none=>none
 |.ptr _ _ _ _ _=>none
 |.agg l=>match fA st l with
  |some m=>some (.agg m)
  |none=>none
 |.func f l=>match fA st l with
  |some m=>if m.all (fun v=>!v.isAgg&&!v.isTuple)then some (.func f m)else none
  |none=>none
 |.tuple _=>none
 |.bO c v=>match dj st v with
  |some u=>some (.bO c u)
  |none=>none
 |v=>some v
def fA (st:aC):List AV->Option (List AV)
 |[]=>some []
 |a::l=>match dj st a,fA st l with
  |some b,some m=>some (b::m)
  |_,_=>none
end
def ofConst:Value->Option AV
 |.bool b=>some (.bool b)
 |.int k n=>some (.int k n)
 |.slice none 0 0=>some .nil
 |.pointer none=>some .void
 |.nilFunc=>some .void
 |.string s=>some (.str s.data.toList)
 |_=>none
def Fm (op:BinOp) (k:IntKind) (a b:Int):Option fk:=
 match op with
 |.add=>cq (.int k (k.wrap (a+b)))
 |.sub=>cq (.int k (k.wrap (a-b)))
 |.mul=>cq (.int k (k.wrap (a*b)))
 |.quo=>some ⟨.int k (k.wrap (a.tdiv b)),[],[b≠0]⟩
 |.rem=>some ⟨.int k (a.tmod b),[],[b≠0]⟩
 |.and=>cq (.int k (k.wrap ((BitVec.ofInt k.bits a&&&BitVec.ofInt k.bits b).toNat:Int)))
 |.or=>cq (.int k (k.wrap ((BitVec.ofInt k.bits a|||BitVec.ofInt k.bits b).toNat:Int)))
 |.eql=>cq (.bool (a==b))
 |.neq=>cq (.bool (a !=b))
 |.lss=>cq (.bool (decide (a<b)))
 |.leq=>cq (.bool (decide (a<=b)))
 |.gtr=>cq (.bool (decide (a>b)))
 |.geq=>cq (.bool (decide (a>=b)))
 |_=>none
def isKind:IntKind->IntKind->Bool
 |.i8,.i8|.i16,.i16|.i32,.i32|.i64,.i64|.u8,.u8|.u16,.u16|.u32,.u32|.u64,.u64=>true
 |_,_=>false
def qV (T:Types) (t:TypeId) (op:BinOp) (x y:AV):Option fk:=
 match x,y with
 |.int k a,.int j b=>
  match op with
  |.shl=>some ⟨.int k (k.wrap (a*2^(min b.toNat k.bits))),[],[0<=b]⟩
  |.shr=>some ⟨.int k (a.fdiv (2^(min b.toNat k.bits))),[],[0<=b]⟩
  |_=>if isKind k j then Fm op k a b else none
 |.bool a,.bool b=>
  match look t T with
  |some ⟨.bool,_,_,_⟩=>match op with
   |.eql=>cq (.bool (a==b))
   |.neq=>cq (.bool (a !=b))
   |_=>none
  |_=>none
 |_,_=>none
def KS:TypeDesc->Bool
 |.slice _=>true
 |_=>false
def isSlice (T:Types) (t:TypeId):Bool:=match look t T with
 |some ti=>KS ti.desc
 |none=>false
def FL:AV->AV->Option Bool
 |.eR b _ _ _,.nil=>some b
 |_,_=>none
def oA:TypeDesc->Nat->Option Field
 |.struct fs,i=>fs[i]?
 |_,_=>none
def jl (T:Types) (v:AV) (i:Nat) (off:Nat) (t:TypeId):Option AV:=
 match v.kids[i]?,look t T with
 |some c,some ti=>if AV.sizes (v.kids.take i)==off&&c.size==ti.size&&c.isAgg==mU ti.desc&&ti.size !=0 then some c else none
 |_,_=>none
def elemAt (st:aC) (es:Nat) (x:AV) (i:Nat):Option (AV×Prop):=
 match x with
 |.ak e n f=>if e==es then some (.bg (f i),i<n)else none
 |.mag N=>if es==1 then some (.bg (.int .u32 (aD N i)),i<nl N)else none
 |.own k e s n=>if e==es then
   match look k st with
   |some o=>if o.row&&!o.wr&&o.es==e then some (.bg (o.f (i+s)),i<n)else some (.ptr k (i+s) es 0 [],i<n)
   |none=>none
  else none
 |_=>none
def lenOf:AV->Option Nat
 |.ak _ n _=>some n
 |.mag N=>some (nl N)
 |.own _ _ _ n=>some n
 |.nil=>some 0
 |_=>none
def readAll (st:aC) (es:Nat):AV->Option (Nat×(Nat->AV))
 |.ak e n f=>if e==es then some (n,f)else none
 |.mag N=>if es==1 then some (nl N,fun i=>.int .u32 (aD N i))else none
 |.nil=>some (0,fun _=>.nil)
 |.own k e s n=>if e==es then
   match look k st with
   |some o=>if o.row&&o.es==e then some (n,fun i=>o.f (i+s))else none
   |none=>none
  else none
 |_=>none
def nth (l:List AV) (z:AV) (i:Nat):AV:=match l[i]? with
 |some v=>v
 |none=>z
def placeOf (T:Types):TypeDesc->Nat->Option (Nat×TypeId)
 |.struct fs,i=>match fs[i]? with
  |some f=>some (f.offset,f.type)
  |none=>none
 |.array _ e,i=>match look e T with
  |some ti=>some (i*ti.size,e)
  |none=>none
 |_,_=>none
def E9 (T:Types):TypeDesc->Bool
 |.struct fs=>fs.toList.all fun f=>(look f.type T).isSome
 |.array _ e=>(look e T).isSome
 |_=>false
def tB (T:Types) (d:TypeDesc):List AV->List (Nat×AV)->Option (List AV)
 |l,[]=>some l
 |l,(i,x)::ps=>match placeOf T d i with
  |some (off,t)=>match jl T (.agg l) i off t with
   |some c=>if c.size==x.size&&c.isAgg==x.isAgg&&!x.isTuple then tB T d (l.set i x) ps else none
   |none=>none
  |none=>none
def s6 (es:Nat):List AV->List (Nat×AV)->Option (List AV)
 |l,[]=>some l
 |l,(i,x)::ps=>if x.size==es&&!x.isTuple&&decide (i<l.length)then s6 es (l.set i x) ps else none
def fh (ρ:Operand->Option AV):List Operand->Option (List AV)
 |[]=>some []
 |x::l=>match ρ x,fh ρ l with
  |some a,some m=>if a.isTuple then none else some (a::m)
  |_,_=>none
def kj (ρ:Operand->Option AV):List (Nat×Operand)->Option (List (Nat×AV))
 |[]=>some []
 |(i,x)::l=>match ρ x,kj ρ l with
  |some a,some m=>some ((i,a)::m)
  |_,_=>none
def cI (ρ:Operand->Option AV) (d:Int):Option Operand->Option Int
 |none=>some d
 |some x=>match ρ x with
  |some (.int _ n)=>some n
  |_=>none
def lz (l:aC):List (Nat×Option au):=l.map fun p=>(p.1,some p.2)
def gu (l:aC):List (Nat×Option au):=l.map fun p=>(p.1,match p.2.es with
 |0=>none
 |_+1=>some p.2)
def pick (st:aC):List Nat->aC
 |[]=>[]
 |k::l=>match look k st with
  |some o=>put k o (pick st l)
  |none=>pick st l
def Fh:aX->Bool
 |(f,_)::_=>f==999999997
 |[]=>false
def kz (T:Types) (Γ:aX) (K:Nat) (ρ:Operand->Option AV) (st:aC) (c:Call):Option fk:=
 match c.callee with
 |.value f=>match ρ f,fh ρ c.args.toList with
  |some (.func g caps),some args=>match look g Γ with
   |some s=>match s K (args++caps) st with
    |some r=>some ⟨r.res,gu r.post,r.iV⟩
    |none=>none
   |none=>none
  |_,_=>none
 |.builtin .len=>match c.argTypes[0]?,fh ρ c.args.toList with
  |some t,some [x]=>match look t T with
   |some ⟨.slice _,_,_,_⟩=>match lenOf x with
    |some n=>cq (.int .i64 n)
    |none=>none
   |some ⟨.array n _,_,_,_⟩=>cq (.int .i64 n)
   |_=>none
  |_,_=>none
 |.builtin .cap=>match c.argTypes[0]?,fh ρ c.args.toList with
  |some t,some [.nil]=>match look t T with
   |some ⟨.slice _,_,_,_⟩=>cq (.int .i64 0)
   |_=>none
  |_,_=>none
 |.builtin .append=>match c.argTypes[0]?,c.argTypes[1]?,fh ρ c.args.toList with
  |some t,some t',some [x,y]=>match look t T,look t' T with
   |some ⟨.slice e,_,_,_⟩,some ⟨.slice _,_,_,_⟩=>match look e T with
    |some ti=>match readAll st ti.size y,x with
     |some (m,g),.nil=>if ti.size==0||ti.zero.size !=ti.size||ti.zero.isTuple then none else
      some ⟨.own K ti.size 0 m,[(K,some ⟨true,true,ti.size,m,g⟩)],match Fh Γ with
       |true=>[m*(ti.bytes+1)*2<=2^47]
       |false=>[0<m/\m*(ti.bytes+1)*2<=2^47]⟩
     |some (m,g),.own k es 0 n=>match look k st with
      |some o=>if o.row&&o.wr&&o.es==es&&es==ti.size&&ti.size !=0&&ti.zero.size==ti.size&&!ti.zero.isTuple&&!(y.keys.contains k)then
        some ⟨.own K es 0 (n+m),[(k,none),(K,some ⟨true,true,es,n+m,fun i=>if i<n then o.f i else g (i-n)⟩)],[(n+m)*(ti.bytes+1)*2<=2^47]⟩
       else none
      |none=>none
     |_,_=>none
    |none=>none
   |some ⟨.slice e,_,_,_⟩,some ⟨.int k',_,_,_⟩=>match x,y,look e T with
    |.nil,.int .i64 n,some ti=>if k' !=.i64||ti.size==0||ti.zero.size !=ti.size||ti.zero.isTuple then none else
     some ⟨.own K ti.size 0 n.toNat,[(K,some ⟨true,true,ti.size,n.toNat,fun _=>ti.zero⟩)],[0<n/\n.toNat*(ti.bytes+1)*2<=2^47]⟩
    |_,_,_=>none
   |_,_=>none
  |_,_,_=>none
 |.builtin .copy=>match c.argTypes[0]?,c.argTypes[1]?,fh ρ c.args.toList with
  |some t,some t',some [x,y]=>match look t T,look t' T with
   |some ⟨.slice e,_,_,_⟩,some ⟨.slice _,_,_,_⟩=>match look e T with
    |some ti=>match readAll st ti.size y,x with
     |some (m,g),.own k es s n=>match look k st with
      |some o=>if o.row&&o.wr&&o.es==es&&es==ti.size&&!(y.keys.contains k)then
        some ⟨.int .i64 (min m n:Nat),[(k,some {o with f:=fun i=>if s<=i/\i<s+min m n then g (i-s)else o.f i})],[]⟩
       else none
      |none=>none
     |_,_=>none
    |none=>none
   |_,_=>none
  |_,_,_=>none
 |.builtin .clear=>match c.argTypes[0]?,fh ρ c.args.toList with
  |some t,some [.own k es s n]=>match look t T with
   |some ⟨.slice e,_,_,_⟩=>match look e T,look k st with
    |some ti,some o=>if o.row&&o.wr&&o.es==es&&es==ti.size&&ti.zero.size==ti.size&&!ti.zero.isTuple then
      some ⟨.tuple [],[(k,some {o with f:=fun i=>if s<=i/\i<s+n then ti.zero else o.f i})],[]⟩
     else none
    |_,_=>none
   |_=>none
  |_,_=>none
 |.builtin .min=>match fh ρ c.args.toList with
  |some [.int k a,.int j b]=>if isKind k j then cq (.int k (if b<a then b else a))else none
  |_=>none
 |.builtin .max=>match fh ρ c.args.toList with
  |some [.int k a,.int j b]=>if isKind k j then cq (.int k (if a<b then b else a))else none
  |_=>none
 |_=>none
def qN (st:aC) (ti:TI):AV->Option fk
 |.bg v=>if v.size==ti.size&&v.isAgg==mU ti.desc&&!v.isTuple then cq v else none
 |.ptr k idx es off path=>match look k st with
  |some o=>if o.es==es&&(o.f idx).sL path==off then
    match(o.f idx).o8 path with
    |some v=>if v.size==ti.size&&v.isAgg==mU ti.desc&&!v.isTuple then some ⟨v,[],[idx<o.len]⟩else none
    |none=>none
   else none
  |none=>none
 |_=>none
mutual
def p9 (b:Bool):AV->AV->AV
 |.rat q n,.rat r m=>.rat (cond b q r) (cond b n m)
 |.agg l,.agg m=>match rW b l m with
  |some x=>.agg x
  |none=>if b=true then .agg l else .agg m
 |u,v=>if b=true then u else v
def rW (b:Bool):List AV->List AV->Option (List AV)
 |[],[]=>some []
 |u::l,v::m=>match rW b l m with
  |some x=>some (p9 b u v::x)
  |none=>none
 |_,_=>none
end
def DV (b:Bool) (k:IntKind) (n:Int):AV->AV
 |.int k' m=>match isKind k k' with
  |true=>.int k (cond b n m)
  |false=>if b=true then .int k n else .int k' m
 |v=>if b=true then .int k n else v
def F1 (b x:Bool):AV->AV
 |.bool y=>.bool (cond b x y)
 |v=>if b=true then .bool x else v
def GV (b:Bool) (es n:Nat) (h:Nat->AV):AV->AV
 |.ak es' m g=>match Nat.beq es es' with
  |true=>.ak es (cond b n m) fun i=>cond b (h i) (g i)
  |false=>if b=true then .ak es n h else .ak es' m g
 |v=>if b=true then .ak es n h else v
def zY (r:Bool) (idx:Nat) (u:AV) (f:Nat->AV):Nat->AV:=match r,u with
 |true,.rat q n=>fun j=>p9 (j==idx) (.rat q n) (f j)
 |true,.agg l=>fun j=>p9 (j==idx) (.agg l) (f j)
 |true,.ak es n h=>fun j=>GV (j==idx) es n h (f j)
 |_,u=>fun j=>if j==idx then u else f j
def KM (r:Bool) (idx:Nat) (u:AV) (f:Nat->AV):Nat->AV:=match r,u with
 |true,.int k n=>fun j=>DV (j==idx) k n (f j)
 |true,.bool x=>fun j=>F1 (j==idx) x (f j)
 |r,u=>zY r idx u f
def Ee (z r:Bool) (idx:Nat) (u:AV) (f:Nat->AV):Nat->AV:=match z with
 |true=>KM r idx u f
 |false=>zY r idx u f
def zo (z:Bool) (st:aC) (ti:TI) (p x:AV):Option fk:=
 match p with
 |.ptr k idx es off path=>match look k st with
  |some o=>if o.es==es&&o.wr&&(o.f idx).sL path==off&&x.size==ti.size&&!x.isTuple then
    match(o.f idx).o8 path,(if o.row then dj st x else some x)with
    |some v,some y=>if v.size==ti.size&&y.size==ti.size&&v.isAgg==y.isAgg then
      match(o.f idx).tc path y with
      |some u=>some ⟨.tuple [],[(k,some {o with f:=Ee z o.row idx u o.f})],[idx<o.len]⟩
      |none=>none
     else none
    |_,_=>none
   else none
  |none=>none
 |_=>none
def rN (es:Nat) (v:AV) (l h:Nat):Option AV:=
 match v with
 |.ak e _ f=>if e==es&&es !=0 then some (.ak e (h-l) fun i=>f (i+l))else none
 |.mag N=>if es==1 then some (.ak 1 (h-l) fun i=>.int .u32 (aD N (i+l)))else none
 |.own k e s _=>if e==es&&es !=0 then some (.own k e (s+l) (h-l))else none
 |.nil=>some .nil
 |_=>none
def CS (st:aC) (ti:TI) (n:Nat) (v:AV) (a b:Int):Option fk:=
 match v with
 |.ptr k idx es off path=>match look k st with
  |some o=>match(o.f idx).o8 path with
   |some (.agg l)=>if o.es==es&&(o.f idx).sL path==off&&(l.all fun v=>v.size==ti.size)&&(AV.bH l).isEmpty&&ti.size !=0&&l.length==n then
     some ⟨.ak ti.size (b.toNat-a.toNat) (fun i=>nth l ti.zero (i+a.toNat)),[(k,some {o with wr:=false})],[idx<o.len,0<=a/\a<=b/\b<=n]⟩
    else none
   |_=>none
  |none=>none
 |_=>none
def isVoid:AV->Bool
 |.nil=>true
 |.void=>true
 |_=>false
def tF (st:aC):AV->Option (Nat×au)
 |.ptr k 0 es 0 []=>match look k st with
  |some o=>if !o.row&&o.es==es&&o.len==1&&(o.f 0).keys.isEmpty&&!(isVoid (o.f 0))then some (k,o)else none
  |none=>none
 |_=>none
def r5 (st:aC):List AV->List AV
 |[]=>[]
 |v::l=>match tF st v with
  |some (_,o)=>.bg (o.f 0)::r5 st l
  |none=>v::r5 st l
def qC (st:aC):List AV->List (Nat×Option au)
 |[]=>[]
 |v::l=>match tF st v with
  |some (k,o)=>(k,some {o with wr:=false})::qC st l
  |none=>qC st l
def fH (T:Types) (Γ:aX) (K:Nat) (ρ:Operand->Option AV) (st:aC) (op:Op):Option fk:=
 match op with
 |.move x|.assign x=>match ρ x with
  |some v=>cq v
  |none=>none
 |.pick c a b=>match ρ c with
  |some (.bool t)=>match ρ a,ρ b with
   |some (.bool x),some (.bool y)=>cq (.bool (bif t then x else y))
   |some x,some y=>match t with
    |true=>cq x
    |false=>cq y
   |_,_=>none
  |_=>none
 |.alloc t=>match look t T with
  |some ti=>if ti.size==0||ti.zero.size !=ti.size||ti.zero.isTuple then none else some ⟨.ptr K 0 ti.size 0 [],[(K,some ⟨false,true,ti.size,1,fun _=>ti.zero⟩)],[]⟩
  |none=>none
 |.box _ x=>match ρ x with
  |some v=>if v.size==0||v.isTuple then none else some ⟨.ptr K 0 v.size 0 [],[(K,some ⟨false,true,v.size,1,fun _=>v⟩)],[]⟩
  |none=>none
 |.build t ps=>match look t T,kj ρ ps.toList with
  |some ti,some l=>if !E9 T ti.desc||!ti.zero.isAgg then none else match tB T ti.desc ti.zero.kids l with
   |some m=>cq (.agg m)
   |none=>none
  |_,_=>none
 |.buildSlice t n ps=>match look t T,kj ρ ps.toList with
  |some ⟨.slice e,_,_,_⟩,some l=>match look e T with
   |some ti=>if ti.size==0||ti.zero.size !=ti.size||ti.zero.isTuple then none else match s6 ti.size (List.replicate n ti.zero) l with
    |some m=>match fA st m with
     |some m'=>some ⟨.own K ti.size 0 n,[(K,some ⟨true,true,ti.size,n,nth m' ti.zero⟩)],[n*ti.size<=2^24]⟩
     |none=>none
    |none=>none
   |none=>none
  |_,_=>none
 |.load t a=>match look t T,ρ a with
  |some ti,some p=>qN st ti p
  |_,_=>none
 |.store t a x=>match look t T,ρ a,ρ x with
  |some ti,some p,some v=>zo (Fh Γ) st ti p v
  |_,_,_=>none
 |.nilCheck x=>match ρ x with
  |some (.ptr k i es o p)=>cq (.ptr k i es o p)
  |some (.bg v)=>cq (.bg v)
  |some (.func f c)=>cq (.func f c)
  |_=>none
 |.binOp o t x y _=>match ρ x,ρ y with
  |some a,some b=>qV T t o a b
  |_,_=>none
 |.unOp o _ x=>match o,ρ x with
  |.not,some (.bool b)=>cq (.bool (!b))
  |.neg,some (.int k n)=>cq (.int k (k.wrap (0-n)))
  |.xor,some (.int k n)=>cq (.int k (k.wrap ((BitVec.ofInt k.bits (if k.signed then-1 else k.max)^^^BitVec.ofInt k.bits n).toNat:Int)))
  |_,_=>none
 |.convert s d x=>match look s T,look d T,ρ x with
  |some ⟨.int _,_,_,_⟩,some ⟨.int k,_,_,_⟩,some (.int _ n)=>cq (.int k (k.wrap n))
  |_,_,_=>none
 |.sliceToArrayPointer t x=>match look t T,ρ x with
  |some ⟨.array m e,_,_,_⟩,some (.ak es n f)=>match look e T with
   |some ti=>if ti.size==es&&m !=0 then some ⟨.bg (.agg ((List.range m).map f)),[],[m<=n]⟩else none
   |none=>none
  |_,_=>none
 |.makeSlice t l c=>match look t T,ρ l,ρ c with
  |some ⟨.slice e,_,_,_⟩,some (.int .i64 n),some (.int .i64 m)=>match look e T with
   |some ti=>if ti.size==0||ti.zero.size !=ti.size||ti.zero.isTuple then none else
    some ⟨.own K ti.size 0 n.toNat,[(K,some ⟨true,true,ti.size,n.toNat,fun _=>ti.zero⟩)],[0<=n/\n<=m/\m<=2^47/\m*ti.bytes<=2^47]⟩
   |none=>none
  |_,_,_=>none
 |.slice t x lo hi mx=>match look t T,ρ x with
  |some ⟨.slice e,_,_,_⟩,some v=>match look e T,lenOf v with
   |some ti,some len=>match cI ρ 0 lo,cI ρ len hi with
    |some l,some h=>match cI ρ h mx with
     |some m=>if mx.isSome&&hi.isNone then none else match rN ti.size v l.toNat h.toNat with
      |some u=>some ⟨u,[],[0<=l/\l<=h/\h<=m/\m<=len]⟩
      |none=>none
     |none=>none
    |_,_=>none
   |_,_=>none
  |some ⟨.array n e,_,_,_⟩,some v=>match mx with
   |none=>match look e T,cI ρ 0 lo,cI ρ n hi with
    |some ti,some a,some b=>CS st ti n v a b
    |_,_,_=>none
   |some _=>none
  |_,_=>none
 |.fieldAddr s x i=>match look s T,ρ x with
  |some ti,some p=>match oA ti.desc i with
   |some fd=>match p with
    |.bg v=>match jl T v i fd.offset fd.type with
     |some c=>cq (.bg c)
     |none=>none
    |.ptr k idx es off path=>match look fd.type T with
     |some fi=>if fi.size==0 then none else cq (.ptr k idx es (off+fd.offset) (path++[i]))
     |none=>none
    |_=>none
   |none=>none
  |_,_=>none
 |.field s x i=>match look s T,ρ x with
  |some ti,some v=>match oA ti.desc i with
   |some fd=>match jl T v i fd.offset fd.type with
    |some c=>cq c
    |none=>none
   |none=>none
  |_,_=>none
 |.indexAddr t x ix=>match look t T,ρ x,ρ ix with
  |some ⟨.array n e,_,_,_⟩,some p,some (.int _ i)=>match look e T with
   |some ti=>if ti.size==0 then none else match p with
    |.bg v=>match jl T v i.toNat (i.toNat*ti.size) e with
     |some c=>some ⟨.bg c,[],[0<=i/\i<n]⟩
     |none=>none
    |.ptr k idx es off path=>some ⟨.ptr k idx es (off+i.toNat*ti.size) (path++[i.toNat]),[],[0<=i/\i<n]⟩
    |_=>none
   |none=>none
  |some ⟨.slice e,_,_,_⟩,some v,some (.int _ i)=>match look e T with
   |some ti=>if ti.size==0 then none else match elemAt st ti.size v i.toNat with
    |some (r,need)=>some ⟨r,[],[0<=i/\need]⟩
    |none=>none
   |none=>none
  |_,_,_=>none
 |.index t x ix=>match look t T,ρ x,ρ ix with
  |some ⟨.array n e,_,_,_⟩,some v,some (.int _ i)=>match look e T with
   |some ti=>match jl T v i.toNat (i.toNat*ti.size) e with
    |some c=>some ⟨c,[],[0<=i/\i<n]⟩
    |none=>none
   |none=>none
  |_,_,_=>none
 |.extract x i=>match ρ x with
  |some (.tuple l)=>match l[i]? with
   |some v=>cq v
   |none=>none
  |_=>none
 |.makeFunc (.func f) first caps=>match first.toList,fh ρ caps.toList with
  |[],some l=>if l.all (fun v=>!v.isAgg&&!v.isTuple)&&(r5 st l).all (fun v=>!v.isAgg&&!v.isTuple)then some ⟨.func f (r5 st l),qC st l,[]⟩else none
  |_,_=>none
 |.call c=>kz T Γ K ρ st c
 |_=>none
def bp:AV->AV
 |.eR _ es n f=>.ak es n f
 |.bO _ v=>v
 |v=>v
def eP (ρ:Operand->Option AV) (x:Operand):Option AV:=match ρ x with
 |some v=>some (bp v)
 |none=>none
def rz (T:Types) (ρ:Operand->Option AV):Op->Option AV
 |.binOp o t x y _=>match ρ x,ρ y with
  |some a,some b=>match FL a b,isSlice T t with
   |some b,true=>match o with
    |.eql=>some (.bool b)
    |.neq=>some (.bool (!b))
    |_=>none
   |_,_=>none
  |_,_=>none
 |_=>none
def isString:TypeDesc->Bool
 |.string=>true
 |_=>false
def nC (s:ByteArray) (i:Nat):Nat:=match s.data[i]? with
 |some b=>b.toNat
 |none=>0
def bytesOf (f:Nat->AV):Nat->Option (List UInt8)
 |0=>some []
 |n+1=>match bytesOf f n,f n with
  |some l,.int .u8 b=>some (l++[UInt8.ofNat b.toNat])
  |_,_=>none
def qL (T:Types) (st:aC) (ρ:Operand->Option AV):Op->Option fk
 |.binOp o _ x y _=>match ρ x,ρ y with
  |some (.str a),some (.str b)=>match o with
   |.add=>match Nat.ble (a.length+b.length) 1000000 with
    |true=>cq (.str (a++b))
    |false=>none
   |.eql=>cq (.bool (a==b))
   |.neq=>cq (.bool (!(a==b)))
   |_=>none
  |_,_=>none
 |.convert s d x=>match look s T,look d T,ρ x with
  |some ⟨.slice e,_,_,_⟩,some ⟨.string,_,_,_⟩,some v=>match look e T with
   |some ⟨.int .u8,_,_,_⟩=>match readAll st 1 v with
    |some (n,f)=>match bytesOf f n with
     |some l=>cq (.str l)
     |none=>none
    |none=>none
   |_=>none
  |_,_,_=>none
 |.index t (.const (.string s)) ix=>match ρ ix,look t T with
  |some (.int _ i),some ti=>if isString ti.desc then some ⟨.int .u8 (nC s i.toNat),[],[0<=i/\i<s.size]⟩else none
  |_,_=>none
 |_=>none
def Jq:Op->Bool
 |.move _=>true
 |.assign _=>true
 |_=>false
def sG:FuncId×Spec:=(999999999,fun _ _ _=>none)
def acD:aX->Bool
 |(f,_)::_=>f==999999999
 |[]=>false
def uI (T:Types) (ρ:Operand->Option AV) (st:aC):Op->Bool
 |.load _ a=>match ρ a with
  |some (.ptr k idx _ _ _)=>match look k st with
   |some o=>Nat.blt idx o.len
   |none=>false
  |_=>false
 |.store _ a _=>match ρ a with
  |some (.ptr k idx _ _ _)=>match look k st with
   |some o=>Nat.blt idx o.len
   |none=>false
  |_=>false
 |.indexAddr t x ix=>match look t T,ρ x,ρ ix with
  |some ⟨.array n _,_,_,_⟩,_,some (.int _ i)=>decide (0<=i/\i<n)
  |some ⟨.slice _,_,_,_⟩,some v,some (.int _ i)=>match lenOf v with
   |some n=>decide (0<=i)&&Nat.blt i.toNat n
   |none=>false
  |_,_,_=>false
 |.index t _ ix=>match look t T,ρ ix with
  |some ⟨.array n _,_,_,_⟩,some (.int _ i)=>decide (0<=i/\i<n)
  |_,_=>false
 |.slice _ x lo hi mx=>match ρ x with
  |some v=>match lenOf v with
   |some len=>match cI ρ 0 lo,cI ρ len hi with
    |some l,some h=>match cI ρ h mx with
     |some m=>decide (0<=l/\l<=h/\h<=m/\m<=len)
     |none=>false
    |_,_=>false
   |none=>false
  |none=>false
 |.buildSlice t n _=>match look t T with
  |some ⟨.slice e,_,_,_⟩=>match look e T with
   |some ti=>Nat.ble (n*ti.size) (2^24)
   |none=>false
  |_=>false
 |_=>false
def nG:FuncId×Spec:=(999999998,fun _ _ _=>none)
def ajm:aX->Bool
 |(f,_)::_=>f==999999998||(f==999999997||f==999999996)
 |[]=>false
def Cj:IntKind->Bool
 |.i64=>true
 |_=>false
def uX (T:Types) (ρ:Operand->Option AV):Op->Option Int
 |.binOp o _ x y _=>match ρ x,ρ y with
  |some (.int k a),some (.int j b)=>match Cj k,Cj j with
   |true,true=>match o with
    |.add=>some (a+b)
    |.sub=>some (a-b)
    |.mul=>some (a*b)
    |_=>none
   |_,_=>none
  |_,_=>none
 |.convert s d x=>match look s T,look d T,ρ x with
  |some ⟨.int _,_,_,_⟩,some ⟨.int k,_,_,_⟩,some (.int _ n)=>match Cj k with
   |true=>some n
   |false=>none
  |_,_,_=>none
 |_=>none
def rm (T:Types) (Γ:aX) (K:Nat) (ρ:Operand->Option AV) (st:aC) (op:Op):Option fk:=
 match acD Γ with
 |true=>match uI T ρ st op with
  |true=>match fH T Γ K ρ st op with
   |some r=>some ⟨r.val,r.cu,[]⟩
   |none=>none
  |false=>fH T Γ K ρ st op
 |false=>match ajm Γ with
  |true=>match uX T ρ op with
   |some n=>some ⟨.int .i64 n,[],[-2^63<=n/\n<2^63]⟩
   |none=>fH T Γ K ρ st op
  |false=>fH T Γ K ρ st op
def cG:FuncId×Spec:=(999999996,fun _ _ _=>none)
def EJ:aX->Bool
 |(f,_)::_=>f==999999996
 |[]=>false
def uS (T:Types) (st:aC) (t t':TypeId) (cap k es n:Nat):Option AV->Option fk
 |some (.own k' es' s m)=>match look t T,look t' T with
  |some ⟨.slice e,_,_,_⟩,some ⟨.slice _,_,_,_⟩=>match look e T,look k st with
   |some ti,some o=>if k'==k&&es'==es&&o.row&&o.wr&&o.es==es&&es==ti.size&&ti.size !=0&&!ti.zero.isTuple then
     some ⟨.bO cap (.own k es 0 (n+m)),[(k,some {o with f:=fun i=>if n<=i/\i<n+m then o.f (i-n+s)else o.f i})],[n+m<=cap/\n+m<=o.len]⟩
    else none
   |_,_=>none
  |_,_=>none
 |_=>none
def mJ (T:Types) (Γ:aX) (K:Nat) (ρ:Operand->Option AV) (st:aC):Op->Option fk
 |.makeSlice t l c=>match EJ Γ with
  |true=>match fH T Γ K (eP ρ) st (.makeSlice t l c),eP ρ c with
   |some r,some (.int .i64 m)=>some ⟨.bO m.toNat r.val,r.cu,r.iV⟩
   |_,_=>none
  |false=>none
 |.slice t x lo hi none=>match ρ x with
  |some (.bO cap (.ak es n f))=>match look t T with
   |some ⟨.slice e,_,_,_⟩=>match look e T,cI ρ 0 lo,cI ρ n hi with
    |some ti,some l,some h=>if ti.size==es&&es !=0 then
      some ⟨.bO (cap-l.toNat) (.ak es (h.toNat-l.toNat) fun i=>f (i+l.toNat)),[],[0<=l/\l<=h/\h<=n]⟩else none
    |_,_,_=>none
   |_=>none
  |some (.bO cap (.own k es s n))=>match look t T with
   |some ⟨.slice e,_,_,_⟩=>match look e T,look k st,cI ρ 0 lo,cI ρ n hi with
    |some ti,some o,some l,some h=>if ti.size==es&&es !=0&&o.row&&o.es==es then
      some ⟨.bO (cap-l.toNat) (.own k es (s+l.toNat) (h.toNat-l.toNat)),[],[0<=l/\l<=h/\h<=cap/\s+h<=o.len]⟩else none
    |_,_,_,_=>none
   |_=>none
  |_=>none
 |.slice t x lo hi (some mx)=>match EJ Γ with
  |true=>match eP ρ x with
   |some (.ak es n f)=>match look t T with
    |some ⟨.slice e,_,_,_⟩=>match look e T,cI ρ 0 lo,cI ρ n hi,cI ρ 0 (some mx)with
     |some ti,some l,some h,some m=>if ti.size==es&&es !=0&&hi.isSome then
       some ⟨.bO (m.toNat-l.toNat) (.ak es (h.toNat-l.toNat) fun i=>f (i+l.toNat)),[],[0<=l/\l<=h/\h<=m/\m<=n]⟩else none
     |_,_,_,_=>none
    |_=>none
   |_=>none
  |false=>none
 |.call c=>match c.callee with
  |.value _=>match EJ Γ with
   |true=>kz T Γ K ρ st c
   |false=>none
  |.builtin .cap=>match c.argTypes[0]?,c.args.toList with
   |some t,[a]=>match look t T,ρ a with
    |some ⟨.slice _,_,_,_⟩,some (.bO n _)=>cq (.int .i64 n)
    |_,_=>none
   |_,_=>none
  |.builtin .append=>match c.argTypes[0]?,c.argTypes[1]?,c.args.toList with
   |some t,some t',[a,b]=>match ρ a with
    |some (.bO cap (.own k es 0 n))=>match uS T st t t' cap k es n (eP ρ b)with
     |some r=>some r
     |none=>match kz T Γ K (eP ρ) st c with
      |some ⟨.own K' es 0 nm,cu,iV⟩=>some ⟨.bO cap (.own K' es 0 nm),cu,(nm<=cap)::iV⟩
      |_=>none
    |some (.bO cap (.ak es n f))=>match look t T,look t' T,eP ρ b with
     |some ⟨.slice e,_,_,_⟩,some ⟨.slice _,_,_,_⟩,some y=>match look e T with
      |some ti=>match readAll st ti.size y with
       |some (m,g)=>if ti.size==0||ti.zero.size !=ti.size||ti.zero.isTuple||ti.size !=es then none else
        some ⟨.own K es 0 (n+m),[(K,some ⟨true,true,es,n+m,fun i=>if i<n then f i else g (i-n)⟩)],[cap<n+m/\(n+m)*(ti.bytes+1)*2<=2^47]⟩
       |none=>none
      |none=>none
     |some ⟨.slice e,_,_,_⟩,some ⟨.int .i64,_,_,_⟩,some (.int .i64 m)=>match look e T with
      |some ti=>if ti.size==0||ti.zero.size !=ti.size||ti.zero.isTuple||ti.size !=es then none else
       some ⟨.own K es 0 (n+m.toNat),[(K,some ⟨true,true,es,n+m.toNat,fun i=>if i<n then f i else ti.zero⟩)],[0<m/\cap<n+m.toNat/\(n+m.toNat)*(ti.bytes+1)*2<=2^47]⟩
      |none=>none
     |_,_,_=>none
    |_=>none
   |_,_,_=>none
  |_=>none
 |_=>none
def lM (T:Types) (Γ:aX) (K:Nat) (ρ:Operand->Option AV) (st:aC) (op:Op):Option fk:=
 match rz T ρ op with
 |some v=>cq v
 |none=>match qL T st ρ op with
  |some r=>some r
  |none=>match mJ T Γ K ρ st op with
   |some r=>some r
   |none=>match Jq op with
    |true=>fH T Γ K ρ st op
    |false=>rm T Γ K (eP ρ) st op
structure aK where
 cQ:List (Nat×AV)
 store:aC
 next:Nat
def aK.iw (s:aK):Operand->Option AV
 |.tmp t=>look t s.cQ
 |.const v=>ofConst v
 |.func f=>some (.func f [])
 |.global _=>none
def cM:List (Nat×Option au)->aC->aC
 |[],st=>st
 |(k,some o)::l,st=>cM l (put k o st)
 |(k,none)::l,st=>cM l (cut k st)
def pX (dst:Option Tmp) (v:AV) (sl:List (Nat×AV)):List (Nat×AV):=
 match dst with
 |some d=>put d v sl
 |none=>sl
def qj (ops:List Oper) (sl:List (Nat×AV)) (o:Oper):Option Bool:=
 match o.guard with
 |none=>some true
 |some (g,want)=>match ops[g]? with
  |some p=>match p.dst with
   |some d=>match look d sl with
    |some (.bool b)=>some (match b,want with
     |true,true=>true
     |false,false=>true
     |_,_=>false)
    |some (.tuple [])=>some false
    |_=>none
   |none=>none
  |none=>none
structure Rec where
 res:fk
 asks:List Nat
def nh (ρ:Operand->Option AV):List Operand->List Nat
 |[]=>[]
 |x::l=>match ρ x with
  |some v=>v.keys++nh ρ l
  |none=>nh ρ l
def Ip:Op->Option Operand
 |.fieldAddr _ x _=>some x
 |.indexAddr _ x _=>some x
 |_=>none
def tf (ρ:Operand->Option AV) (op:Op):List Nat:=match Jq op with
 |true=>[]
 |false=>match Ip op with
  |some x=>match ρ x with
   |some (.ptr _ _ _ _ _)=>[]
   |_=>nh ρ op.operands.toList
  |none=>nh ρ op.operands.toList
def nj (st:aC):List Nat->List Nat
 |[]=>[]
 |k::l=>match look k st with
  |some o=>if o.row then nj st l else AV.keys (o.f 0)++nj st l
  |none=>nj st l
def tJ (ρ:Operand->Option AV):Op->List Nat
 |.call c=>match c.callee with
  |.value f=>match ρ f with
   |some (.func _ l)=>AV.bH l
   |_=>[]
  |_=>[]
 |_=>[]
def nA (st:aC) (ρ:Operand->Option AV) (op:Op):List Nat:=match nj st (tJ ρ op)with
 |[]=>tf ρ op
 |k::l=>tf ρ op++k::l
def cT:Nat:=4096
def kY (st:aC):aC:=st.map fun p=>(p.1,if p.2.row then {p.2 with wr:=false} else p.2)
def fV:aC->List (Nat×Option au)
 |[]=>[]
 |(k,o)::l=>if o.row&&o.wr then(k,some {o with wr:=false})::fV l else fV l
def force {α:Type} (n:Nat) (k:Nat->α):α:=match n with
 |0=>k 0
 |m+1=>k (m+1)
theorem force_eq {α:Type} {n:Nat} {k:Nat->α}:force n k=k n:=by cases n<;>rfl
def guess (orc:List (Nat×Bool)) (i:Nat) (r:fk):fk:=
 match look i orc with
 |some t=>match r.val with
  |.bool b=>⟨.bool t,r.cu,(b=t)::r.iV⟩
  |_=>r
 |none=>r
def nQ (T:Types) (Γ:aX) (orc:List (Nat×Bool)) (ops:List Oper) (s:aK) (i:Nat) (o:Oper):Option Rec:=
 match qj ops s.cQ o with
 |some true=>
  let ks:=nA s.store s.iw o.op
  let st:=pick s.store ks
  force (s.next+cT*i) fun K=>match lM T Γ K s.iw st o.op with
  |some r=>some ⟨guess orc i r,ks⟩
  |none=>match fV st with
   |[]=>none
   |e=>match lM T Γ K s.iw (kY st) o.op with
    |some r=>some ⟨{guess orc i r with cu:=e++r.cu},ks⟩
    |none=>none
 |some false=>some ⟨⟨.tuple [],[],[]⟩,[]⟩
 |none=>none
def oE (s:aK) (o:Oper) (r:fk):aK:=
 {s with cQ:=pX o.dst r.val s.cQ,store:=cM r.cu s.store}
def lF (T:Types) (Γ:aX) (orc:List (Nat×Bool)) (ops:List Oper):List Oper->Nat->aK->Option (aK×List Prop×List Rec)
 |[],_,s=>some (s,[],[])
 |o::l,i,s=>match nQ T Γ orc ops s i o with
  |some r=>match lF T Γ orc ops l (i+1) (oE s o r.res)with
   |some (s',need,rs)=>some (s',r.res.iV++need,r::rs)
   |none=>none
  |none=>none
def BP (ops:List Oper) (o:Oper):List Nat:=
 (o.op.operands.toList.filterMap fun|.tmp t=>some t|_=>none)++
 (match o.guard with
  |some (g,_)=>match ops[g]? with
   |some p=>p.dst.toList
   |none=>[]
  |none=>[])
def meet (a b:List Nat):Bool:=a.any fun x=>b.any fun y=>x==y
structure Touch where
 rd:List Nat
 wr:List Nat
 ask:List Nat
 cu:List Nat
def l8 (ops:List Oper) (o:Oper) (r:Rec):Touch:=⟨BP ops o,o.dst.toList,r.asks,r.res.cu.map (·.1)⟩
def Touch.mZ (a b:Touch):Bool:=
 meet a.wr b.rd||meet a.wr b.wr||meet a.rd b.wr||meet a.cu b.ask||meet a.cu b.cu||meet a.ask b.cu
def qI:List Oper->List Nat->List Nat
 |[],acc=>acc
 |o::l,acc=>qI l (acc++[o.after.toList.foldl (fun m e=>if Region.binds .any e then m|||(1<<<e.on)|||acc.getD e.on 0 else m) 0])
def uQ:List Oper->List Rec->List Nat->List Oper->List (Touch×Nat)
 |o::l,r::rs,a::as',ops=>(l8 ops o r,a)::uQ l rs as' ops
 |_,_,_,_=>[]
def yl (i:Nat) (t:Touch):List (Touch×Nat)->Bool
 |[]=>true
 |(u,a)::l=>(!(t.mZ u)||a.testBit i)&&yl i t l
def vT:List (Touch×Nat)->Nat->Bool
 |[],_=>true
 |(t,_)::l,i=>yl i t l&&vT l (i+1)
def vC:List Oper->Nat->Bool
 |[],_=>true
 |o::l,i=>(o.after.toList.all fun e=>!(Region.binds .any e)||decide (e.on<i))&&vC l (i+1)
def rP (T:Types) (Γ:aX) (orc:List (Nat×Bool)) (ops:Array Oper) (draws:Bool) (s:aK):Option (aK×List Prop):=
 match lF T Γ orc ops.toList ops.toList 0 s with
 |some (s',need,rs)=>
  if !draws||vC ops.toList 0&&vT (uQ ops.toList rs (qI ops.toList []) ops.toList) 0 then
   force (s.next+cT*ops.size) fun nx=>some ({s' with next:=nx},need)
  else none
 |none=>none
inductive aq where
 |normal
 |exit (id:Nat)
 |ret
def gd (T:Types) (Γ:aX):Nat->Code->aK->Option (aq×aK×List Prop)
 |0,_,_=>none
 |n+1,c,s=>match c with
  |.skip=>some (.normal,s,[])
  |.label _=>some (.normal,s,[])
  |.region _ ops d=>match rP T Γ [] ops d s with
   |some (s',p)=>some (.normal,s',p)
   |none=>none
  |.seq x y=>match gd T Γ n x s with
   |some (.normal,s',p)=>match gd T Γ n y s' with
    |some (e,s'',q)=>some (e,s'',p++q)
    |none=>none
   |r=>r
  |.cond b x y=>match s.iw b with
   |some (.bool t)=>match t with
    |true=>gd T Γ n x s
    |false=>gd T Γ n y s
   |_=>none
  |.block id x=>match gd T Γ n x s with
   |some (.exit j,s',p)=>if j==id then some (.normal,s',p)else some (.exit j,s',p)
   |r=>r
  |.loop x=>match gd T Γ n x s with
   |some (.normal,s',p)=>match gd T Γ n (.loop x) s' with
    |some (e,s'',q)=>some (e,s'',p++q)
    |none=>none
   |r=>r
  |.exit id=>some (.exit id,s,[])
  |.ret=>some (.ret,s,[])
  |_=>none
def aQ:Nat->List AV->List (Nat×AV)
 |_,[]=>[]
 |i,a::l=>(i,a)::aQ (i+1) l
def xw (T:Types) (s:aK):ResultVar->Option (AV×List Prop)
 |.tmp t=>match look t s.cQ with
  |some v=>if v.isTuple then none else some (v,[])
  |none=>none
 |.cell a t=>match look t T,look a s.cQ with
  |some ti,some p=>match qN s.store ti p with
   |some r=>some (r.val,r.iV)
   |none=>none
  |_,_=>none
def iW (T:Types) (s:aK):List ResultVar->Option (List AV×List Prop)
 |[]=>some ([],[])
 |x::l=>match xw T s x,iW T s l with
  |some (v,p),some (vs,q)=>some (v::vs,p++q)
  |_,_=>none
def mA:List AV->AV
 |[v]=>v
 |l=>.tuple l
abbrev bP (f:Nat->AV):au:=⟨false,true,3,1,f⟩
end Go.Am
namespace Go.Am
open AV
def Sz (q:Rat) (n:Nat):Prop:=q.num.natAbs<2^n/\q.den<2^n
def iy (M:Nat->Prop) (w:World) (b o:Nat) (ps:List Value):Prop:=
 ∃c ty fr,w.heap[b]?=some (.cells c ty fr)/\¬M b/\∀i v,ps[i]?=some v->c[o+i]?=some v
def uj (N:Nat):List Value:=(List.range (nl N)).map fun i=>Value.int .u32 (aD N i)
abbrev aY:=Nat->Option (Nat×Nat×Nat)
def bG:aY:=fun _=>none
inductive aN (M:Nat->Prop) (w:World):aY->List AV->List Value->Prop
 |nil {β}:aN M w β [] []
 |bool {β b l cs}:aN M w β l cs->aN M w β (.bool b::l) (.bool b::cs)
 |int {β k n l cs}:aN M w β l cs->aN M w β (.int k n::l) (.int k n::cs)
 |rat {β q n x y l cs}:Sz q n->aN M w bG [.mag q.num.natAbs] [x]->aN M w bG [.mag (if q.den=1 then 0 else q.den)] [y]->aN M w β l cs->
   aN M w β (.rat q n::l) (.bool (decide (q<0))::x::y::cs)
 |mag {β N base cap l cs}:(N=0\/∃b o,base=some ⟨b,o,none⟩/\iy M w b o (uj N))->nl N<=cap->aN M w β l cs->
   aN M w β (.mag N::l) (.slice base (nl N) cap::cs)
 |agg {β p ps l cs}:aN M w β p ps->aN M w β l cs->aN M w β (.agg p::l) (ps++cs)
 |ak {β es n f base cap l cs} {cf:Nat->List Value}:(n=0\/∃b o,base=some ⟨b,o,none⟩/\∀i,i<n->iy M w b (o+i*es) (cf i))->0<es->n<=cap->
   (∀i,i<n->(cf i).length=es)->(∀i,i<n->aN M w bG [f i] (cf i))->aN M w β l cs->
   aN M w β (.ak es n f::l) (.slice base n cap::cs)
 |eR {β b es n f base cap l cs} {cf:Nat->List Value}:base.isNone=b->(n=0\/∃b o,base=some ⟨b,o,none⟩/\∀i,i<n->iy M w b (o+i*es) (cf i))->0<es->n<=cap->
   (∀i,i<n->(cf i).length=es)->(∀i,i<n->aN M w bG [f i] (cf i))->aN M w β l cs->
   aN M w β (.eR b es n f::l) (.slice base n cap::cs)
 |vnil {β l cs}:aN M w β l cs->aN M w β (.nil::l) (.slice none 0 0::cs)
 |void {β x l cs}:x.oneCell'=true->aN M w β l cs->aN M w β (.void::l) (x::cs)
 |str {β s l cs}:aN M w β l cs->aN M w β (.str s::l) (.string ⟨s.toArray⟩::cs)
 |bg {β v ps b o l cs}:aN M w bG [v] ps->iy M w b o ps->aN M w β l cs->
   aN M w β (.bg v::l) (.pointer (some ⟨b,o,none⟩)::cs)
 |ptr {β k idx es off path b} {N:Nat×Nat} {l cs}:β k=some (b,N)->aN M w β l cs->
   aN M w β (.ptr k idx es off path::l) (.pointer (some ⟨b,idx*es+off,none⟩)::cs)
 |own {β k es s n cap b} {N:Nat×Nat} {o l cs}:β k=some (b,N)->s+cap<=N.1/\s+n<=N.2->n<=cap->(cap=0\/o=s*es)->0<es->aN M w β l cs->
   aN M w β (.own k es s n::l) (.slice (some ⟨b,o,none⟩) n cap::cs)
 |own0 {β k es l cs}:0<es->aN M w β l cs->aN M w β (.own k es 0 0::l) (.slice none 0 0::cs)
 |func {β f caps vs l cs}:aN M w β caps vs->(caps.all fun v=>!v.isAgg&&!v.isTuple)=true->aN M w β l cs->
   aN M w β (.func f caps::l) (.func (.func f) #[] vs.toArray::cs)
 |bO {β c v base n l cs}:v.isAgg=false->aN M w β [v] [.slice base n c]->aN M w β l cs->aN M w β (.bO c v::l) (.slice base n c::cs)
theorem iy.mono {M M':Nat->Prop} {w w':World} {b o:Nat} {ps:List Value}
  (hw:∀b o,¬M b->w.heap[b]?=some o->w'.heap[b]?=some o/\¬M' b) (h:iy M w b o ps):iy M' w' b o ps:=by
 obtain⟨c,ty,fr,h1,h2,h3⟩:=h
 obtain⟨h4,h5⟩:=hw b _ h2 h1
 exact⟨c,ty,fr,h4,h5,h3⟩
def HC (M:Nat->Prop) (w:World) (M':Nat->Prop) (w':World):Prop:=∀b c ty fr,¬M b->w.heap[b]?=some (.cells c ty fr)->w'.heap[b]?=some (.cells c ty fr)/\¬M' b
theorem iy.iT {M M':Nat->Prop} {w w':World} {b o:Nat} {ps:List Value} (hw:HC M w M' w') (h:iy M w b o ps):iy M' w' b o ps:=by
 obtain⟨c,ty,fr,h1,h2,h3⟩:=h
 obtain⟨h4,h5⟩:=hw b _ _ _ h2 h1
 exact⟨c,ty,fr,h4,h5,h3⟩
theorem aN.iT {M M':Nat->Prop} {w w':World} (hw:HC M w M' w')
  {β:aY} {l:List AV} {cs:List Value} (h:aN M w β l cs):∀β':aY,(∀k x,β k=some x->β' k=some x)->aN M' w' β' l cs:=by
 induction h with
 |nil=>exact fun _ _=>.nil
 |bool _ ih=>exact fun β' hb=>.bool (ih β' hb)
 |int _ ih=>exact fun β' hb=>.int (ih β' hb)
 |rat hs _ _ _ ih1 ih2 ih3=>exact fun β' hb=>.rat hs (ih1 _ fun _ _ h=>h) (ih2 _ fun _ _ h=>h) (ih3 β' hb)
 |mag hm hc _ ih=>exact fun β' hb=>.mag (hm.imp id fun⟨b,o,h1,h2⟩=>⟨b,o,h1,h2.iT hw⟩) hc (ih β' hb)
 |agg _ _ ih1 ih2=>exact fun β' hb=>.agg (ih1 β' hb) (ih2 β' hb)
 |ak hm h0 hc hl _ _ ih1 ih2=>exact fun β' hb=>.ak (hm.imp id fun⟨b,o,h1,h2⟩=>⟨b,o,h1,fun i hi=>(h2 i hi).iT hw⟩) h0 hc hl (fun i hi=>ih1 i hi _ fun _ _ h=>h) (ih2 β' hb)
 |eR hq hm h0 hc hl _ _ ih1 ih2=>exact fun β' hb=>.eR hq (hm.imp id fun⟨b,o,h1,h2⟩=>⟨b,o,h1,fun i hi=>(h2 i hi).iT hw⟩) h0 hc hl (fun i hi=>ih1 i hi _ fun _ _ h=>h) (ih2 β' hb)
 |vnil _ ih=>exact fun β' hb=>.vnil (ih β' hb)
 |void hx _ ih=>exact fun β' hb=>.void hx (ih β' hb)
 |str _ ih=>exact fun β' hb=>.str (ih β' hb)
 |bg _ hm _ ih1 ih2=>exact fun β' hb=>.bg (ih1 _ fun _ _ h=>h) (hm.iT hw) (ih2 β' hb)
 |ptr hk _ ih=>exact fun β' hb=>.ptr (hb _ _ hk) (ih β' hb)
 |own hk h1 h2 h4 h3 _ ih=>exact fun β' hb=>.own (hb _ _ hk) h1 h2 h4 h3 (ih β' hb)
 |own0 h3 _ ih=>exact fun β' hb=>.own0 h3 (ih β' hb)
 |func _ hc _ ih1 ih2=>exact fun β' hb=>.func (ih1 β' hb) hc (ih2 β' hb)
 |bO ha _ _ ih1 ih2=>exact fun β' hb=>.bO ha (ih1 β' hb) (ih2 β' hb)
theorem aN.mono {M M':Nat->Prop} {w w':World} (hw:∀b o,¬M b->w.heap[b]?=some o->w'.heap[b]?=some o/\¬M' b)
  {β:aY} {l:List AV} {cs:List Value} (h:aN M w β l cs):∀β':aY,(∀k x,β k=some x->β' k=some x)->aN M' w' β' l cs:=
 h.iT fun b _ _ _=>hw b _
theorem aN.length {M:Nat->Prop} {w:World} {β:aY} {l:List AV} {cs:List Value} (h:aN M w β l cs):cs.length=sizes l:=by
 induction h<;>simp_all [sizes,size]<;>omega
theorem aN.Hx {M:Nat->Prop} {w:World} {β:aY} {l:List AV} {cs:List Value} (h:aN M w β l cs):∀v∈cs,v.oneCell'=true:=by
 induction h with
 |nil=>simp
 |rat hs h1 h2 _ ih1 ih2 ih3=>
  intro v hv
  simp only[List.mem_cons]at hv
  rcases hv with rfl|rfl|rfl|hv
  ·rfl
  ·exact ih1 _ (by simp)
  ·exact ih2 _ (by simp)
  ·exact ih3 v hv
 |agg _ _ ih1 ih2=>
  intro v hv
  rcases List.mem_append.1 hv with hv|hv
  ·exact ih1 v hv
  ·exact ih2 v hv
 |ak _ _ _ _ _ _ _ ih2=>
  intro v hv
  rcases List.mem_cons.1 hv with rfl|hv
  ·rfl
  ·exact ih2 v hv
 |eR _ _ _ _ _ _ _ _ ih2=>
  intro v hv
  rcases List.mem_cons.1 hv with rfl|hv
  ·rfl
  ·exact ih2 v hv
 |bg _ _ _ _ ih2=>
  intro v hv
  rcases List.mem_cons.1 hv with rfl|hv
  ·rfl
  ·exact ih2 v hv
 |func _ _ _ _ ih2=>
  intro v hv
  rcases List.mem_cons.1 hv with rfl|hv
  ·rfl
  ·exact ih2 v hv
 |bO _ _ _ _ ih2=>
  intro v hv
  rcases List.mem_cons.1 hv with rfl|hv
  ·rfl
  ·exact ih2 v hv
 |void hx _ ih2=>
  intro v hv
  rcases List.mem_cons.1 hv with rfl|hv
  ·exact hx
  ·exact ih2 v hv
 |_=>
  rename_i ih
  intro v hv
  rcases List.mem_cons.1 hv with rfl|hv
  ·rfl
  ·exact ih v hv
theorem aN.append {M:Nat->Prop} {w:World} {β:aY} {l m:List AV} {cs ds:List Value} (h:aN M w β l cs) (h':aN M w β m ds):aN M w β (l++m) (cs++ds):=by
 induction h with
 |nil=>exact h'
 |bool _ ih=>exact .bool (ih h')
 |int _ ih=>exact .int (ih h')
 |rat hs h1 h2 _ _ _ ih3=>exact .rat hs h1 h2 (ih3 h')
 |mag hm hc _ ih=>exact .mag hm hc (ih h')
 |agg h1 _ _ ih2=>rw[List.append_assoc];exact .agg h1 (ih2 h')
 |ak hm h0 hc hl h1 _ _ ih2=>exact .ak hm h0 hc hl h1 (ih2 h')
 |eR hq hm h0 hc hl h1 _ _ ih2=>exact .eR hq hm h0 hc hl h1 (ih2 h')
 |vnil _ ih=>exact .vnil (ih h')
 |void hx _ ih=>exact .void hx (ih h')
 |str _ ih=>exact .str (ih h')
 |bg h1 hm _ _ ih2=>exact .bg h1 hm (ih2 h')
 |ptr hk _ ih=>exact .ptr hk (ih h')
 |own hk h1 h2 h4 h3 _ ih=>exact .own hk h1 h2 h4 h3 (ih h')
 |own0 h3 _ ih=>exact .own0 h3 (ih h')
 |func h1 hc _ _ ih2=>exact .func h1 hc (ih2 h')
 |bO ha h1 _ _ ih2=>exact .bO ha h1 (ih2 h')
theorem aN.split {M:Nat->Prop} {w:World} {β:aY} {a:AV} {l:List AV} {cs:List Value} (h:aN M w β (a::l) cs):
  ∃c1 c2,cs=c1++c2/\aN M w β [a] c1/\aN M w β l c2:=by
 cases h with
 |bool h=>exact⟨[_],_,rfl,.bool .nil,h⟩
 |int h=>exact⟨[_],_,rfl,.int .nil,h⟩
 |rat hs h1 h2 h=>exact⟨[_,_,_],_,rfl,.rat hs h1 h2 .nil,h⟩
 |mag hm hc h=>exact⟨[_],_,rfl,.mag hm hc .nil,h⟩
 |agg h1 h=>exact⟨_,_,rfl,by simpa using aN.agg h1 .nil,h⟩
 |ak hm h0 hc hl h1 h=>exact⟨[_],_,rfl,.ak hm h0 hc hl h1 .nil,h⟩
 |eR hq hm h0 hc hl h1 h=>exact⟨[_],_,rfl,.eR hq hm h0 hc hl h1 .nil,h⟩
 |vnil h=>exact⟨[_],_,rfl,.vnil .nil,h⟩
 |void hx h=>exact⟨[_],_,rfl,.void hx .nil,h⟩
 |str h=>exact⟨[_],_,rfl,.str .nil,h⟩
 |bg h1 hm h=>exact⟨[_],_,rfl,.bg h1 hm .nil,h⟩
 |ptr hk h=>exact⟨[_],_,rfl,.ptr hk .nil,h⟩
 |own hk h1 h2 h4 h3 h=>exact⟨[_],_,rfl,.own hk h1 h2 h4 h3 .nil,h⟩
 |own0 h3 h=>exact⟨[_],_,rfl,.own0 h3 .nil,h⟩
 |func h1 hc h=>exact⟨[_],_,rfl,.func h1 hc .nil,h⟩
 |bO ha h1 h=>exact⟨[_],_,rfl,.bO ha h1 .nil,h⟩
theorem aN.cons {M:Nat->Prop} {w:World} {β:aY} {a:AV} {l:List AV} {cs ds:List Value} (h:aN M w β [a] cs) (h':aN M w β l ds):
  aN M w β (a::l) (cs++ds):=h.append h'
theorem aN.at {M:Nat->Prop} {w:World} {β:aY}:∀{l:List AV} {cs:List Value} (_:aN M w β l cs) (i:Nat) (a:AV) (_:l[i]?=some a),
  ∃pr c po,cs=pr++(c++po)/\pr.length=sizes (l.take i)/\aN M w β [a] c/\∀a' c',aN M w β [a'] c'->aN M w β (l.set i a') (pr++(c'++po))
 |[],_,_,i,a,hi=>by simp at hi
 |b::l,cs,h,0,a,hi=>by
  obtain⟨c1,c2,rfl,h1,h2⟩:=h.split
  simp only[List.getElem?_cons_zero,ay]at hi
  subst hi
  exact⟨[],c1,c2,rfl,by simp[sizes],h1,fun a' c' h'=>h'.cons h2⟩
 |b::l,cs,h,i+1,a,hi=>by
  obtain⟨c1,c2,rfl,h1,h2⟩:=h.split
  obtain⟨pr,c,po,rfl,hp,hc,hs⟩:=aN.at h2 i a (by simpa using hi)
  refine⟨c1++pr,c,po,by simp,?_,hc,fun a' c' h'=>?_⟩
  ·have:=h1.length
   simp[sizes]at this
   simp[sizes,hp,this]
  ·simpa using h1.cons (hs a' c' h')
theorem aN.kids {M:Nat->Prop} {w:World} {β:aY} {v:AV} {cs:List Value} (h:aN M w β [v] cs) (hk:v.isAgg=true):aN M w β v.kids cs:=by
 cases h with
 |rat hs h1 h2 h=>
  cases h
  refine .bool (aN.cons (cs:=[_]) ?_ (aN.cons (cs:=[_]) (ds:=[]) ?_ .nil))
  ·exact h1.mono (fun b o h h'=>⟨h',h⟩) _ (fun k x h=>by simp[bG]at h)
  ·exact h2.mono (fun b o h h'=>⟨h',h⟩) _ (fun k x h=>by simp[bG]at h)
 |agg h1 h=>cases h;simpa [AV.kids]using h1
 |_=>cases hk
theorem FY {v c:AV} {i:Nat} (h:v.kids[i]?=some c):v.isAgg=true:=by
 cases v<;>simp[AV.kids]at h<;>rfl
theorem aN.path {M:Nat->Prop} {w:World} {β:aY}:∀(p:List Nat) {v:AV} {cs:List Value} (_:aN M w β [v] cs) (c:AV) (_:v.o8 p=some c),
  ∃pr cc po,cs=pr++(cc++po)/\pr.length=v.sL p/\aN M w β [c] cc/\
   ∀x u cx,aN M w β [x] cx->v.tc p x=some u->aN M w β [u] (pr++(cx++po))
 |[],v,cs,h,c,hc=>by
  simp only[o8,ay]at hc
  subst hc
  refine⟨[],cs,[],by simp,by simp[sL],h,fun x u cx hx hu=>?_⟩
  simp only[tc,ay]at hu
  subst hu
  simpa using hx
 |i::p,v,cs,h,c,hc=>by
  simp only[o8]at hc
  cases hk:v.kids[i]? with
  |none=>rw[hk]at hc;simp at hc
  |some d=>
   rw[hk]at hc
   simp only at hc
   obtain⟨pr,cd,po,rfl,hpr,hcd,hset⟩:=(h.kids (FY hk)).at i d hk
   obtain⟨pr',cc,po',rfl,hpr',hcc,hset'⟩:=aN.path p hcd c hc
   refine⟨pr++pr',cc,po'++po,by simp,by simp[sL,hk,hpr,hpr'],hcc,fun x u cx hx hu=>?_⟩
   simp only[tc,hk]at hu
   cases hs:d.tc p x with
   |none=>rw[hs]at hu;simp at hu
   |some d'=>
    rw[hs]at hu
    simp only[ay]at hu
    subst hu
    have:=hset d' _ (hset' x d' cx hx hs)
    have h2:=aN.agg (l:=[]) (cs:=[]) this .nil
    simpa using h2
def bw (M:Nat->Prop) (w:World) (β:aY) (v:AV) (x:Value):Prop:=
 ∃cs,aN M w β [v] cs/\((v.isAgg=true/\x=.agg cs.toArray)\/(v.isAgg=false/\cs=[x]))
def cH (M:Nat->Prop) (w:World) (β:aY):List AV->List Value->Prop
 |[],[]=>True
 |a::l,x::xs=>bw M w β a x/\cH M w β l xs
 |_,_=>False
def bK (M:Nat->Prop) (w:World) (β:aY) (v:AV) (x:Value):Prop:=
 match v with
 |.tuple l=>∃vs:List Value,x=.tuple vs.toArray/\cH M w β l vs
 |v=>bw M w β v x
theorem bK.F7 {M:Nat->Prop} {w:World} {β:aY} {v:AV} {x:Value} (h:v.isTuple=false):bK M w β v x=bw M w β v x:=by
 cases v<;>first|rfl|simp[isTuple]at h
theorem bw.aix {M:Nat->Prop} {w:World} {β:aY} {v:AV} {x:Value} (h:bw M w β v x):v.isTuple=false:=by
 obtain⟨cs,h,_⟩:=h
 cases v<;>first|rfl|cases h
theorem bw.bT {M:Nat->Prop} {w:World} {β:aY} {v:AV} {x:Value} (h:bw M w β v x):bK M w β v x:=by
 rw[bK.F7 h.aix];exact h
theorem bw.iT {M M':Nat->Prop} {w w':World} (hw:HC M w M' w')
  {β β':aY} (hb:∀k x,β k=some x->β' k=some x) {v:AV} {x:Value} (h:bw M w β v x):bw M' w' β' v x:=by
 obtain⟨cs,h1,h2⟩:=h
 exact⟨cs,h1.iT hw β' hb,h2⟩
theorem cH.iT {M M':Nat->Prop} {w w':World} (hw:HC M w M' w')
  {β β':aY} (hb:∀k x,β k=some x->β' k=some x):∀{l:List AV} {xs:List Value},cH M w β l xs->cH M' w' β' l xs
 |[],[],_=>trivial
 |_::_,_::_,h=>⟨h.1.iT hw hb,cH.iT hw hb h.2⟩
 |[],_::_,h=>h.elim
 |_::_,[],h=>h.elim
theorem bK.iT {M M':Nat->Prop} {w w':World} (hw:HC M w M' w')
  {β β':aY} (hb:∀k x,β k=some x->β' k=some x) {v:AV} {x:Value} (h:bK M w β v x):bK M' w' β' v x:=by
 by_cases hv:v.isTuple=true
 ·cases v<;>simp[isTuple]at hv
  obtain⟨vs,h1,h2⟩:=h
  exact⟨vs,h1,h2.iT hw hb⟩
 ·rw[bK.F7 (by simpa using hv)]at*
  exact h.iT hw hb
theorem bw.mono {M M':Nat->Prop} {w w':World} (hw:∀b o,¬M b->w.heap[b]?=some o->w'.heap[b]?=some o/\¬M' b)
  {β β':aY} (hb:∀k x,β k=some x->β' k=some x) {v:AV} {x:Value} (h:bw M w β v x):bw M' w' β' v x:=h.iT (fun b _ _ _=>hw b _) hb
theorem cH.mono {M M':Nat->Prop} {w w':World} (hw:∀b o,¬M b->w.heap[b]?=some o->w'.heap[b]?=some o/\¬M' b)
  {β β':aY} (hb:∀k x,β k=some x->β' k=some x) {l:List AV} {xs:List Value} (h:cH M w β l xs):cH M' w' β' l xs:=cH.iT (fun b _ _ _=>hw b _) hb h
theorem bK.mono {M M':Nat->Prop} {w w':World} (hw:∀b o,¬M b->w.heap[b]?=some o->w'.heap[b]?=some o/\¬M' b)
  {β β':aY} (hb:∀k x,β k=some x->β' k=some x) {v:AV} {x:Value} (h:bK M w β v x):bK M' w' β' v x:=h.iT (fun b _ _ _=>hw b _) hb
theorem bw.cells {M:Nat->Prop} {w:World} {β:aY} {v:AV} {x:Value} (h:bw M w β v x):aN M w β [v] x.cells.toList:=by
 obtain⟨cs,h1,h2⟩:=h
 rcases h2 with⟨h2,rfl⟩|⟨h2,rfl⟩
 ·simpa [Value.cells]using h1
 ·have hx:=h1.Hx x (by simp)
  cases x<;>first|(simp[Value.oneCell']at hx;done)|simpa [Value.cells]using h1
theorem bw.Av {M:Nat->Prop} {w:World} {β:aY} {v:AV} {cs:List Value} (h:aN M w β [v] cs) (hv:v.isAgg=true):bw M w β v (.agg cs.toArray):=
 ⟨cs,h,.inl ⟨hv,rfl⟩⟩
theorem bw.cD {M:Nat->Prop} {w:World} {β:aY} {v:AV} {x:Value} (h:aN M w β [v] [x]) (hv:v.isAgg=false):bw M w β v x:=
 ⟨[x],h,.inr ⟨hv,rfl⟩⟩
theorem bw.cell {M:Nat->Prop} {w:World} {β:aY} {v:AV} {x:Value} (h:bw M w β v x) (hv:v.isAgg=false):aN M w β [v] [x]:=by
 obtain⟨cs,h1,h2⟩:=h
 rcases h2 with⟨h2,_⟩|⟨_,rfl⟩
 ·simp[hv]at h2
 ·exact h1
theorem BY {M:Nat->Prop} {w:World} {β:aY} {l:List AV} {cs:List Value} (h:aN M w β l cs):bH l=[]->aN M w bG l cs:=by
 induction h with
 |nil=>exact fun _=>.nil
 |bool _ ih=>exact fun hk=>.bool (ih (by simpa [bH,keys]using hk))
 |int _ ih=>exact fun hk=>.int (ih (by simpa [bH,keys]using hk))
 |rat hs h1 h2 _ _ _ ih=>exact fun hk=>.rat hs h1 h2 (ih (by simpa [bH,keys]using hk))
 |mag h1 h2 _ ih=>exact fun hk=>.mag h1 h2 (ih (by simpa [bH,keys]using hk))
 |agg _ _ ih1 ih2=>exact fun hk=>.agg (ih1 (by simp[bH,keys]at hk;exact hk.1)) (ih2 (by simp[bH,keys]at hk;exact hk.2))
 |ak h1 h2 h3 h4 h5 _ _ ih=>exact fun hk=>.ak h1 h2 h3 h4 h5 (ih (by simpa [bH,keys]using hk))
 |eR hq h1 h2 h3 h4 h5 _ _ ih=>exact fun hk=>.eR hq h1 h2 h3 h4 h5 (ih (by simpa [bH,keys]using hk))
 |vnil _ ih=>exact fun hk=>.vnil (ih (by simpa [bH,keys]using hk))
 |void hx _ ih=>exact fun hk=>.void hx (ih (by simpa [bH,keys]using hk))
 |str _ ih=>exact fun hk=>.str (ih (by simpa [bH,keys]using hk))
 |bg h1 h2 _ _ ih=>exact fun hk=>.bg h1 h2 (ih (by simpa [bH,keys]using hk))
 |ptr _ _ _=>exact fun hk=>by simp[bH,keys]at hk
 |own _ _ _ _ _ _ _=>exact fun hk=>by simp[bH,keys]at hk
 |own0 _ _ _=>exact fun hk=>by simp[bH,keys]at hk
 |func _ hc _ ih1 ih2=>exact fun hk=>.func (ih1 (by simp[bH,keys]at hk;exact hk.1)) hc (ih2 (by simp[bH,keys]at hk;exact hk.2))
 |bO ha _ _ ih1 ih2=>exact fun hk=>.bO ha (ih1 (by simp[bH,keys]at hk ⊢;exact hk.1)) (ih2 (by simp[bH,keys]at hk;exact hk.2))
structure Ctx where
 Mf:Nat->Prop
 w0:World
 Mw:Nat->Prop
 k0:aY
 ro:Option Nat:=none
def aO (c:Ctx) (st:aC) (β:aY):Nat->Prop:=fun b=>c.Mf b\/∃k o,∃N:Nat×Nat,look k st=some o/\o.wr=true/\β k=some (b,N)
def z5 (M:Nat->Prop) (w:World) (β:aY) (k:Nat) (o:au):Prop:=
 ∃b,∃N:Nat×Nat,∃cs ty,β k=some (b,N)/\w.heap[b]?=some (.cells cs ty (0,0))/\cs.size=N.1*o.es/\0<o.es/\(o.len=N.2/\o.len<=N.1)/\(o.wr=true->M b)/\(o.wr=false->¬M b)/\
  ∀i,i<o.len->∃ps,ps.length=o.es/\aN M w (if o.row then bG else β) [o.f i] ps/\∀j v,ps[j]?=some v->cs[i*o.es+j]?=some v
structure bF (c:Ctx) (st:aC) (D:Nat->Prop) (β:aY) (w:World):Prop where
 obj:∀k o,look k st=some o->∀x,β k=some x->z5 (aO c st β) w β k o
 dS:∀k o,look k st=some o->β k=none->(o.row=true/\o.len=0/\0<o.es)/\D k
 inj:∀k k' o o' b (N N':Nat×Nat),look k st=some o->look k' st=some o'->o.wr=true->β k=some (b,N)->β k'=some (b,N')->k=k'
 dom:∀k x,β k=some x->D k
 keep:∀k x,c.k0 k=some x->β k=some x
 lt:∀k b (N:Nat×Nat),β k=some (b,N)->b<w.heap.size
 os:w.os=c.w0.os
 tape:w.tape=c.w0.tape
 output:w.output=c.w0.output
 size:c.w0.heap.size<=w.heap.size
 block:∀b,b<c.w0.heap.size->¬c.Mw b->w.heap[b]?=c.w0.heap[b]?
 gE:∀b,c.Mf b->b<c.w0.heap.size/\¬c.Mw b
 new:∀k o b (N:Nat×Nat),look k st=some o->o.wr=true->β k=some (b,N)->c.w0.heap.size<=b\/c.Mw b
structure cV (M:Nat->Prop) (w:World) (β:aY) (M':Nat->Prop) (w':World) (β':aY):Prop where
 heap:∀b o,¬M b->w.heap[b]?=some o->w'.heap[b]?=some o/\¬M' b
 keys:∀k x,β k=some x->β' k=some x
theorem cV.refl (M:Nat->Prop) (w:World) (β:aY):cV M w β M w β:=⟨fun _ _ h h'=>⟨h',h⟩,fun _ _ h=>h⟩
theorem cV.trans {M M1 M2:Nat->Prop} {w w1 w2:World} {β β1 β2:aY} (h:cV M w β M1 w1 β1) (h':cV M1 w1 β1 M2 w2 β2):cV M w β M2 w2 β2:=
 ⟨fun b o hb ho=>let ⟨h1,h2⟩:=h.heap b o hb ho;h'.heap b o h2 h1,fun k x hk=>h'.keys k x (h.keys k x hk)⟩
theorem aN.iM {M M':Nat->Prop} {w w':World} {β β':aY} {l:List AV} {cs:List Value} (h:aN M w β l cs) (e:cV M w β M' w' β'):aN M' w' β' l cs:=
 h.mono e.heap β' e.keys
theorem aN.pz {M M':Nat->Prop} {w w':World} {β β':aY} {l:List AV} {cs:List Value} (h:aN M w bG l cs) (e:cV M w β M' w' β'):aN M' w' bG l cs:=
 h.mono e.heap bG fun _ _ h=>h
theorem aN.vf {M M':Nat->Prop} {w w':World} {β β':aY} {r:Bool} {l:List AV} {cs:List Value} (h:aN M w (if r then bG else β) l cs) (e:cV M w β M' w' β'):
  aN M' w' (if r then bG else β') l cs:=by
 cases r
 ·exact h.iM e
 ·exact h.pz e
theorem bw.iM {M M':Nat->Prop} {w w':World} {β β':aY} {v:AV} {x:Value} (h:bw M w β v x) (e:cV M w β M' w' β'):bw M' w' β' v x:=
 h.mono e.heap e.keys
theorem bK.iM {M M':Nat->Prop} {w w':World} {β β':aY} {v:AV} {x:Value} (h:bK M w β v x) (e:cV M w β M' w' β'):bK M' w' β' v x:=
 h.mono e.heap e.keys
section lists
variable {α:Type} {k j:Nat} {a:α} {l:List (Nat×α)}
theorem jd:look k (put k a l)=some a:=by
 induction l with
 |nil=>simp[put,look]
 |cons p l ih=>
  obtain⟨i,b⟩:=p
  simp only[put]
  by_cases h:(i==k)=true
  ·simp[h,look]
  ·simp[h,look,ih]
theorem gl (h:j≠k):look j (put k a l)=look j l:=by
 induction l with
 |nil=>simp[put,look];omega
 |cons p l ih=>
  obtain⟨i,b⟩:=p
  simp only[put]
  by_cases hi:(i==k)=true
  ·have:i=k:=by grind
   subst this
   have hne:¬i=j:=fun e=>h e.symm
   simp[look,hne]
  ·by_cases hj:(i==j)=true
   ·simp[hi,look,hj]
   ·simp[hi,look,hj,ih]
theorem Gz:look j (put k a l)=if j=k then some a else look j l:=by
 split
 ·rename_i h;subst h;exact jd
 ·rename_i h;exact gl h
theorem BV:look j (cut k l)=if j=k then none else look j l:=by
 induction l with
 |nil=>simp[cut,look]
 |cons p l ih=>
  obtain⟨i,b⟩:=p
  simp only[cut]
  by_cases hi:i=k
  ·simp only[BEq.rfl,if_true,ih,look]
   grind
  ·have:(i==k)=false:=by grind
   simp only[this,Bool.false_eq_true,if_false,look,ih]
   grind
end lists
def aY.set (β:aY) (k:Nat) (x:Nat×Nat×Nat):aY:=fun j=>if j=k then some x else β j
theorem aY.gr (β:aY) (k:Nat) (x:Nat×Nat×Nat):β.set k x k=some x:=by simp[aY.set]
theorem aY.gL (β:aY) {k j:Nat} (x:Nat×Nat×Nat) (h:j≠k):β.set k x j=β j:=by simp[aY.set,h]
theorem AG {w:World} {b:Nat} {o:Obj} (h:w.heap[b]?=some o):b<w.heap.size:=by
 grind
theorem MW {w:World} {o:Obj} {b:Nat} (h:b<w.heap.size):(w.alloc o).heap[b]?=w.heap[b]?:=by
 show(w.heap.push o)[b]?=_
 grind
theorem Vo {w:World} {o:Obj}:(w.alloc o).heap[w.heap.size]?=some o:=by
 show(w.heap.push o)[w.heap.size]?=_
 simp
section change
variable {c:Ctx} {st:aC} {D D':Nat->Prop} {β:aY} {w:World}
theorem bF.fresh (h:bF c st D β w) {K:Nat} (hK:¬D K):β K=none:=by
 cases hb:β K with
 |none=>rfl
 |some x=>exact absurd (h.dom _ _ hb) hK
theorem bF.unknown (h:bF c st D β w) {K:Nat} (hK:¬D K):look K st=none:=by
 cases hl:look K st with
 |none=>rfl
 |some o=>exact absurd (h.dS K o hl (h.fresh hK)).2 hK
theorem bF.mH (h:bF c st D β w) (hD:∀k,D k->D' k):bF c st D' β w:={h with dom:=fun k x hk=>hD _ (h.dom k x hk),dS:=fun k o hk hb=>⟨(h.dS k o hk hb).1,hD _ (h.dS k o hk hb).2⟩}
theorem bF.BN (h:bF c st D β w) {k:Nat} {o:au} {b:Nat} {N:Nat×Nat} (hk:look k st=some o) (hw:o.wr=true) (hb:β k=some (b,N)):¬c.Mf b:=fun hm=>by
 obtain⟨h1,h2⟩:=h.gE b hm
 rcases h.new k o b N hk hw hb with h3|h3
 all_goals grind
theorem bF.drew (h:bF c st D β w):bF c st D β w.drew:=by
 have e:cV (aO c st β) w β (aO c st β) w.drew β:=⟨fun b o h1 h2=>⟨h2,h1⟩,fun _ _ h=>h⟩
 refine {h with obj:=fun k o hk x hx=>?_}
 obtain⟨b,N,cs,ty,h1,h2,h3,h4,h5,h6,h7,h8⟩:=h.obj k o hk x hx
 refine⟨b,N,cs,ty,h1,h2,h3,h4,h5,h6,h7,fun i hi=>?_⟩
 obtain⟨ps,p1,p2,p3⟩:=h8 i hi
 exact⟨ps,p1,p2.vf e,p3⟩
theorem cV.drew {M:Nat->Prop}:cV M w β M w.drew β:=⟨fun _ _ h1 h2=>⟨h2,h1⟩,fun _ _ h=>h⟩
theorem bF.RX {w':World} (h:bF c st D β w) (hh:∀(b:Nat) x ty fr,w.heap[b]?=some (Obj.cells x ty fr)->w'.heap[b]?=some (Obj.cells x ty fr)) (h1:w'.os=w.os) (h2:w'.tape=w.tape) (h3:w'.output=w.output)
  (h4:w.heap.size<=w'.heap.size) (h5:∀b,b<c.w0.heap.size->w'.heap[b]?=w.heap[b]?):bF c st D β w':=by
 refine {h with obj:=fun k o hk x hx=>?_,lt:=fun k b N hk=>Nat.lt_of_lt_of_le (h.lt k b N hk) h4,os:=h1.trans h.os,tape:=h2.trans h.tape,output:=h3.trans h.output,size:=Nat.le_trans h.size h4,block:=fun b hb hm=>(h5 b hb).trans (h.block b hb hm)}
 obtain⟨b,N,cs,ty,q1,q2,q3,q4,q5,q6,q7,q8⟩:=h.obj k o hk x hx
 refine⟨b,N,cs,ty,q1,hh _ _ _ _ q2,q3,q4,q5,q6,q7,fun i hi=>?_⟩
 obtain⟨ps,p1,p2,p3⟩:=q8 i hi
 exact⟨ps,p1,p2.iT (fun b _ _ _ m g=>⟨hh _ _ _ _ g,m⟩) _ fun _ _ h=>h,p3⟩
theorem z5.iM {M M':Nat->Prop} {w w':World} {β β':aY} {k:Nat} {o:au} (h:z5 M w β k o) (e:cV M w β M' w' β')
  (hk:∀b (N:Nat×Nat) cs ty,β k=some (b,N)->w.heap[b]?=some (.cells cs ty (0,0))->w'.heap[b]?=some (.cells cs ty (0,0)))
  (h1:∀b (N:Nat×Nat),β k=some (b,N)->o.wr=true->M' b):z5 M' w' β' k o:=by
 obtain⟨b,N,cs,ty,a1,a2,a3,a4,a5,a6,a7,a8⟩:=h
 refine⟨b,N,cs,ty,e.keys _ _ a1,hk b N cs ty a1 a2,a3,a4,a5,h1 b N a1,fun hw=>(e.heap b _ (a7 hw) a2).2,fun i hi=>?_⟩
 obtain⟨ps,p1,p2,p3⟩:=a8 i hi
 exact⟨ps,p1,p2.vf e,p3⟩
theorem bF.alloc (h:bF c st D β w) {K:Nat} (hK:¬D K) (hD:∀k,D k->D' k) (hDK:D' K) {o:au} (hw:o.wr=true) {cs:Array Value} {ty:TypeId} {N:Nat}
  (hs:cs.size=N*o.es) (h0:0<o.es) (hl:o.len<=N)
  (hc:∀i,i<o.len->∃ps,ps.length=o.es/\aN (aO c st β) w (if o.row then bG else β) [o.f i] ps/\∀j v,ps[j]?=some v->cs[i*o.es+j]?=some v):
  bF c (put K o st) D' (β.set K (w.heap.size,N,o.len)) (w.alloc (.cells cs ty))/\
   cV (aO c st β) w β (aO c (put K o st) (β.set K (w.heap.size,N,o.len))) (w.alloc (.cells cs ty)) (β.set K (w.heap.size,N,o.len)):=by
 have hbK:=h.fresh hK
 have hold:∀b x,w.heap[b]?=some x->(w.alloc (.cells cs ty)).heap[b]?=some x:=fun b x hx=>by
  rw[MW (AG hx)];omega
 have e:cV (aO c st β) w β (aO c (put K o st) (β.set K (w.heap.size,N,o.len))) (w.alloc (.cells cs ty)) (β.set K (w.heap.size,N,o.len)):=by
  refine⟨fun b x hb hx=>⟨hold b x hx,fun hm=>hb ?_⟩,fun k x hk=>?_⟩
  ·rcases hm with hm|⟨k,o',N',h1,h2,h3⟩
   ·exact .inl hm
   ·by_cases hkK:k=K
    ·subst hkK
     rw[aY.gr]at h3
     grind
    ·rw[gl hkK]at h1
     rw[aY.gL _ _ hkK]at h3
     exact .inr ⟨k,o',N',h1,h2,h3⟩
  ·have:k≠K:=fun e=>by grind
   rw[aY.gL _ _ this];omega
 refine⟨?_,e⟩
 have hsz:(w.alloc (.cells cs ty)).heap.size=w.heap.size+1:=World.size_alloc ..
 refine {obj:=?_,dS:=fun k o' hk hb=>?_,inj:=?_,dom:=?_,keep:=fun k x hk=>e.keys _ _ (h.keep k x hk),lt:=?_,os:=h.os,tape:=h.tape,output:=h.output,size:=by have:=h.size;omega,block:=?_,gE:=h.gE,new:=?_}
 ·intro k o' hk x hx
  by_cases hkK:k=K
  ·subst hkK
   rw[jd]at hk
   simp at hk
   subst hk
   refine⟨w.heap.size,(N,o.len),cs,ty,aY.gr _ _ _,Vo,hs,h0,⟨rfl,hl⟩,fun _=>.inr ⟨k,o,(N,o.len),jd,hw,aY.gr _ _ _⟩,fun hf=>by simp[hw]at hf,fun i hi=>?_⟩
   obtain⟨ps,p1,p2,p3⟩:=hc i hi
   exact⟨ps,p1,p2.vf e,p3⟩
  ·rw[gl hkK]at hk
   rw[aY.gL _ _ hkK]at hx
   refine(h.obj k o' hk x hx).iM e (fun b N' cs' ty' _ hx=>hold b _ hx) (fun b N' hb ho=>.inr ⟨k,o',N',?_,ho,?_⟩)
   ·rw[gl hkK];exact hk
   ·rw[aY.gL _ _ hkK];exact hb
 ·by_cases hkK:k=K
  ·subst hkK;rw[aY.gr]at hb;simp at hb
  ·rw[gl hkK]at hk
   rw[aY.gL _ _ hkK]at hb
   exact⟨(h.dS k o' hk hb).1,hD _ (h.dS k o' hk hb).2⟩
 ·intro k k' o1 o2 b N1 N2 h1 h2 hw1 hb1 hb2
  by_cases hkK:k=K
  ·by_cases hkK':k'=K
   ·rw[hkK,hkK']
   ·subst hkK
    rw[aY.gr]at hb1
    rw[aY.gL _ _ hkK']at hb2
    have:=h.lt _ _ _ hb2
    simp at hb1;omega
  ·by_cases hkK':k'=K
   ·subst hkK'
    rw[aY.gr]at hb2
    rw[aY.gL _ _ hkK]at hb1
    have:=h.lt _ _ _ hb1
    simp at hb2;omega
   ·rw[gl hkK]at h1
    rw[gl hkK']at h2
    rw[aY.gL _ _ hkK]at hb1
    rw[aY.gL _ _ hkK']at hb2
    exact h.inj k k' o1 o2 b N1 N2 h1 h2 hw1 hb1 hb2
 ·intro k x hk
  by_cases hkK:k=K
  ·rw[hkK];exact hDK
  ·rw[aY.gL _ _ hkK]at hk
   exact hD _ (h.dom k x hk)
 ·intro k b N' hk
  by_cases hkK:k=K
  ·subst hkK
   rw[aY.gr]at hk
   simp at hk;omega
  ·rw[aY.gL _ _ hkK]at hk
   have:=h.lt k b N' hk
   omega
 ·intro b hb hm
  rw[<-h.block b hb hm]
  have:=h.size
  exact MW aa
 ·intro k o' b N' hk ho hb
  by_cases hkK:k=K
  ·subst hkK
   rw[aY.gr]at hb
   have:=h.size
   simp at hb;omega
  ·rw[gl hkK]at hk
   rw[aY.gL _ _ hkK]at hb
   exact h.new k o' b N' hk ho hb
theorem bF.write (h:bF c st D β w) {k:Nat} {o o':au} (hk:look k st=some o) (hw:o.wr=true) {b:Nat} {N:Nat×Nat} (hb:β k=some (b,N)) {cs cs':Array Value} {ty:TypeId}
  (hh:w.heap[b]?=some (.cells cs ty (0,0))) (hsz:cs'.size=cs.size) (hes:o'.es=o.es) (hw':o'.wr=true) (hl:o'.len=o.len)
  (hc:∀i,i<o'.len->∃ps,ps.length=o'.es/\aN (aO c st β) w (if o'.row then bG else β) [o'.f i] ps/\∀j v,ps[j]?=some v->cs'[i*o'.es+j]?=some v):
  bF c (put k o' st) D β (w.setRow b cs')/\cV (aO c st β) w β (aO c (put k o' st) β) (w.setRow b cs') β:=by
 have hM:aO c st β b:=.inr ⟨k,o,N,hk,hw,hb⟩
 have hother:∀b',b'≠b->(w.setRow b cs').heap[b']?=w.heap[b']?:=fun b' hne=>setRow_other w b b' cs' hne
 have hmm:∀b',aO c (put k o' st) β b'->aO c st β b':=fun b' hm=>by
  rcases hm with hm|⟨j,oj,Nj,h1,h2,h3⟩
  ·exact .inl hm
  ·by_cases hj:j=k
   ·grind
   ·rw[gl hj]at h1
    exact .inr ⟨j,oj,Nj,h1,h2,h3⟩
 have e:cV (aO c st β) w β (aO c (put k o' st) β) (w.setRow b cs') β:=by
  refine⟨fun b' x hb' hx=>⟨?_,fun hm=>hb' (hmm b' hm)⟩,fun _ _ h=>h⟩
  grind
 refine⟨?_,e⟩
 refine {obj:=?_,dS:=fun j oj hj hbj=>?_,inj:=?_,dom:=h.dom,keep:=h.keep,lt:=by simpa using h.lt,os:=h.os,tape:=h.tape,output:=h.output,size:=by simpa using h.size,block:=?_,gE:=h.gE,new:=?_}
 ·intro j oj hj x hx
  by_cases hjk:j=k
  ·subst hjk
   rw[jd]at hj
   simp at hj
   subst hj
   obtain⟨b1,N1,cs1,ty1,a1,a2,a3,a4,⟨a5,a5'⟩,_⟩:=h.obj j o hk _ hb
   rw[hb]at a1
   obtain⟨rfl,rfl⟩:=a1
   rw[hh]at a2
   obtain⟨rfl,rfl,_⟩:=a2
   refine⟨b,N,cs',ty,hb,setRow_heap w b cs cs' ty _ hh,by rw[hsz,a3,hes],aa,⟨aa,aa⟩,fun _=>.inr ⟨j,o',N,jd,hw',hb⟩,fun hf=>by simp[hw']at hf,fun i hi=>?_⟩
   obtain⟨ps,p1,p2,p3⟩:=hc i hi
   exact⟨ps,p1,p2.vf e,p3⟩
  ·rw[gl hjk]at hj
   have hoj:=h.obj j oj hj x hx
   refine hoj.iM e (fun b1 N1 cs1 ty1 hb1 hx=>?_) (fun b1 N1 hb1 ho=>.inr ⟨j,oj,N1,by rw[gl hjk];exact hj,ho,hb1⟩)
   have:b1≠b:=fun e=>by
    subst e
    exact hjk (h.inj k j o oj b1 N N1 hk hj hw hb hb1).symm
   rw[hother b1 this];exact hx
 ·by_cases hjk:j=k
  ·subst hjk;rw[hb]at hbj;simp at hbj
  ·rw[gl hjk]at hj;exact h.dS j oj hj hbj
 ·intro j j' o1 o2 b1 N1 N2 h1 h2 hw1 hb1 hb2
  have f1:∃o1',look j st=some o1'/\o1'.wr=true:=by
   by_cases hj:j=k
   ·subst hj;exact⟨o,hk,hw⟩
   ·rw[gl hj]at h1;exact⟨o1,h1,hw1⟩
  have f2:∃o2',look j' st=some o2':=by
   by_cases hj:j'=k
   ·subst hj;exact⟨o,hk⟩
   ·rw[gl hj]at h2;exact⟨o2,h2⟩
  obtain⟨o1',h1',hw1'⟩:=f1
  obtain⟨o2',h2'⟩:=f2
  exact h.inj j j' o1' o2' b1 N1 N2 h1' h2' hw1' hb1 hb2
 ·intro b' hb' hm
  have hne:b'≠b:=fun e=>by
   subst e
   rcases h.new k o b' N hk hw hb with h1|h1
   ·omega
   ·exact hm h1
  rw[hother b' hne];exact h.block b' hb' hm
 ·intro j oj b1 N1 hj ho hb1
  by_cases hjk:j=k
  ·subst hjk;exact h.new j o b1 N1 hk hw hb1
  ·rw[gl hjk]at hj;exact h.new j oj b1 N1 hj ho hb1
theorem bF.freeze (h:bF c st D β w) {k:Nat} {o:au} (hk:look k st=some o):
  bF c (put k {o with wr:=false} st) D β w/\cV (aO c st β) w β (aO c (put k {o with wr:=false} st) β) w β:=by
 have hmm:∀b',aO c (put k {o with wr:=false} st) β b'->aO c st β b':=fun b' hm=>by
  rcases hm with hm|⟨j,oj,Nj,h1,h2,h3⟩
  ·exact .inl hm
  ·by_cases hj:j=k
   ·subst hj
    rw[jd]at h1
    grind
   ·rw[gl hj]at h1
    exact .inr ⟨j,oj,Nj,h1,h2,h3⟩
 have e:cV (aO c st β) w β (aO c (put k {o with wr:=false} st) β) w β:=⟨fun b' x hb' hx=>⟨hx,fun hm=>hb' (hmm b' hm)⟩,fun _ _ h=>h⟩
 refine⟨?_,e⟩
 refine {h with obj:=?_,dS:=fun j oj hj hbj=>?_,inj:=?_,new:=?_}
 ·intro j oj hj x hx
  by_cases hjk:j=k
  ·subst hjk
   rw[jd]at hj
   simp at hj
   subst hj
   obtain⟨b,N,cs,ty,a1,a2,a3,a4,a5,a6,a7,a8⟩:=h.obj j o hk x hx
   refine⟨b,N,cs,ty,a1,a2,a3,a4,a5,fun hf=>by grind,fun _ hm=>?_,fun i hi=>?_⟩
   ·by_cases hw:o.wr=true
    ·rcases hm with hm|⟨j',oj',Nj',h1,h2,h3⟩
     ·exact h.BN hk hw a1 hm
     ·by_cases hj:j'=j
      ·subst hj
       rw[jd]at h1
       grind
      ·rw[gl hj]at h1
       exact hj (h.inj j' j oj' o b Nj' N h1 hk h2 h3 a1)
    grind
   ·obtain⟨ps,p1,p2,p3⟩:=a8 i hi
    exact⟨ps,p1,p2.vf e,p3⟩
  ·rw[gl hjk]at hj
   exact(h.obj j oj hj x hx).iM e (fun _ _ _ _ _ hx=>hx) (fun b1 N1 hb1 ho=>.inr ⟨j,oj,N1,by rw[gl hjk];omega,ho,hb1⟩)
 ·by_cases hjk:j=k
  ·subst hjk
   rw[jd]at hj
   simp at hj
   subst hj
   exact h.dS j o hk hbj
  ·rw[gl hjk]at hj;exact h.dS j oj hj hbj
 ·intro j j' o1 o2 b1 N1 N2 h1 h2 hw1 hb1 hb2
  have hjk:j≠k:=fun e=>by
   subst e
   rw[jd]at h1
   simp at h1
   subst h1;simp at hw1
  rw[gl hjk]at h1
  have f2:∃o2',look j' st=some o2':=by
   by_cases hj:j'=k
   ·subst hj;exact⟨o,hk⟩
   ·rw[gl hj]at h2;exact⟨o2,h2⟩
  obtain⟨o2',h2'⟩:=f2
  exact h.inj j j' o1 o2' b1 N1 N2 h1 h2' hw1 hb1 hb2
 ·intro j oj b1 N1 hj ho hb1
  have hjk:j≠k:=fun e=>by
   subst e
   rw[jd]at hj
   simp at hj
   subst hj;simp at ho
  rw[gl hjk]at hj
  exact h.new j oj b1 N1 hj ho hb1
theorem bF.drop (h:bF c st D β w) (k:Nat):bF c (cut k st) D β w/\cV (aO c st β) w β (aO c (cut k st) β) w β:=by
 have hl:∀j o,look j (cut k st)=some o->j≠k/\look j st=some o:=fun j o hj=>by
  rw[BV]at hj
  grind
 have hmm:∀b',aO c (cut k st) β b'->aO c st β b':=fun b' hm=>by
  rcases hm with hm|⟨j,oj,Nj,h1,h2,h3⟩
  ·exact .inl hm
  ·exact .inr ⟨j,oj,Nj,(hl j oj h1).2,h2,h3⟩
 have e:cV (aO c st β) w β (aO c (cut k st) β) w β:=⟨fun b' x hb' hx=>⟨hx,fun hm=>hb' (hmm b' hm)⟩,fun _ _ h=>h⟩
 refine⟨?_,e⟩
 refine {h with obj:=?_,dS:=fun j oj hj hbj=>h.dS j oj (hl j oj hj).2 hbj,inj:=?_,new:=?_}
 ·intro j oj hj x hx
  exact(h.obj j oj (hl j oj hj).2 x hx).iM e (fun _ _ _ _ _ hx=>hx) (fun b1 N1 hb1 ho=>.inr ⟨j,oj,N1,hj,ho,hb1⟩)
 ·exact fun j j' o1 o2 b1 N1 N2 h1 h2=>h.inj j j' o1 o2 b1 N1 N2 (hl _ _ h1).2 (hl _ _ h2).2
 ·exact fun j oj b1 N1 hj=>h.new j oj b1 N1 (hl _ _ hj).2
theorem bF.extend (h:bF c st D β w) {k K:Nat} {o o':au} (hk:look k st=some o) (hw:o.wr=true) (hK:¬D K) (hD:∀k,D k->D' k) (hDK:D' K) {b:Nat} {N:Nat×Nat}
  (hb:β k=some (b,N)) {cs cs':Array Value} {ty:TypeId}
  (hh:w.heap[b]?=some (.cells cs ty (0,0))) (hsz:cs'.size=cs.size) (hes:o'.es=o.es) (hw':o'.wr=true) (hl:o'.len<=N.1)
  (hc:∀i,i<o'.len->∃ps,ps.length=o'.es/\aN (aO c st β) w (if o'.row then bG else β) [o'.f i] ps/\∀j v,ps[j]?=some v->cs'[i*o'.es+j]?=some v):
  bF c (put K o' (cut k st)) D' (β.set K (b,N.1,o'.len)) (w.setRow b cs')/\
   cV (aO c st β) w β (aO c (put K o' (cut k st)) (β.set K (b,N.1,o'.len))) (w.setRow b cs') (β.set K (b,N.1,o'.len)):=by
 have hbK:=h.fresh hK
 have hM:aO c st β b:=.inr ⟨k,o,N,hk,hw,hb⟩
 have hother:∀b',b'≠b->(w.setRow b cs').heap[b']?=w.heap[b']?:=fun b' hne=>setRow_other w b b' cs' hne
 have hl':∀j oj,look j (put K o' (cut k st))=some oj->(j=K/\oj=o')\/(j≠K/\j≠k/\look j st=some oj):=fun j oj hj=>by
  rw[Gz]at hj
  split at hj
  ·simp at hj
   exact .inl ⟨by assumption,hj.symm⟩
  ·rw[BV]at hj
   split at hj
   ·simp at hj
   ·exact .inr ⟨by assumption,by assumption,hj⟩
 have hmm:∀b',aO c (put K o' (cut k st)) (β.set K (b,N.1,o'.len)) b'->aO c st β b':=fun b' hm=>by
  rcases hm with hm|⟨j,oj,Nj,h1,h2,h3⟩
  ·exact .inl hm
  ·rcases hl' j oj h1 with⟨rfl,rfl⟩|⟨g1,g2,g3⟩
   ·rw[aY.gr]at h3
    simp at h3
    rw[<-h3.1];exact hM
   ·rw[aY.gL _ _ g1]at h3
    exact .inr ⟨j,oj,Nj,g3,h2,h3⟩
 have e:cV (aO c st β) w β (aO c (put K o' (cut k st)) (β.set K (b,N.1,o'.len))) (w.setRow b cs') (β.set K (b,N.1,o'.len)):=by
  refine⟨fun b' x hb' hx=>⟨?_,fun hm=>hb' (hmm b' hm)⟩,fun j y hj=>?_⟩
  ·have:b'≠b:=fun e=>hb' (e▸hM)
   rw[hother b' this];exact hx
  ·have:j≠K:=fun e=>by subst e;rw[hbK]at hj;simp at hj
   rw[aY.gL _ _ this];exact hj
 refine⟨?_,e⟩
 obtain⟨b1,N1,cs1,ty1,a1,a2,a3,a4,⟨a5,a5'⟩,_⟩:=h.obj k o hk _ hb
 rw[hb]at a1
 obtain⟨rfl,rfl⟩:=a1
 rw[hh]at a2
 obtain⟨rfl,rfl,_⟩:=a2
 refine {obj:=?_,dS:=fun j oj hj hbj=>?_,inj:=?_,dom:=?_,keep:=fun k x hk=>e.keys _ _ (h.keep k x hk),lt:=?_,os:=h.os,tape:=h.tape,output:=h.output,size:=by simpa using h.size,block:=?_,gE:=h.gE,new:=?_}
 ·intro j oj hj x hx
  rcases hl' j oj hj with⟨rfl,rfl⟩|⟨g1,g2,g3⟩
  ·refine⟨b,(N.1,oj.len),cs',ty,aY.gr _ _ _,setRow_heap w b cs cs' ty _ hh,by rw[hsz,a3,hes],aa,⟨rfl,hl⟩,
    fun _=>.inr ⟨j,oj,_,jd,hw',aY.gr _ _ _⟩,fun hf=>by simp[hw']at hf,fun i hi=>?_⟩
   obtain⟨ps,p1,p2,p3⟩:=hc i hi
   exact⟨ps,p1,p2.vf e,p3⟩
  ·rw[aY.gL _ _ g1]at hx
   refine(h.obj j oj g3 x hx).iM e (fun b1 N1 cs1 ty1 hb1 hx=>?_) (fun b1 N1 hb1 ho=>.inr ⟨j,oj,N1,hj,ho,?_⟩)
   ·have:b1≠b:=fun e=>by
     subst e
     exact g2 (h.inj k j o oj b1 N N1 hk g3 hw hb hb1).symm
    rw[hother b1 this];exact hx
   ·rw[aY.gL _ _ g1];exact hb1
 ·rcases hl' j oj hj with⟨rfl,rfl⟩|⟨g1,g2,g3⟩
  ·rw[aY.gr]at hbj;simp at hbj
  ·rw[aY.gL _ _ g1]at hbj
   exact⟨(h.dS j oj g3 hbj).1,hD _ (h.dS j oj g3 hbj).2⟩
 ·intro j j' o1 o2 b1 N1 N2 h1 h2 hw1 hb1 hb2
  rcases hl' j o1 h1 with⟨rfl,rfl⟩|⟨g1,g2,g3⟩
  ·rcases hl' j' o2 h2 with⟨rfl,rfl⟩|⟨f1,f2,f3⟩
   ·rfl
   ·rw[aY.gr]at hb1
    rw[aY.gL _ _ f1]at hb2
    obtain⟨rfl,_⟩:=hb1
    exact absurd (h.inj k j' o o2 b N N2 hk f3 hw hb hb2).symm f2
  ·rcases hl' j' o2 h2 with⟨rfl,rfl⟩|⟨f1,f2,f3⟩
   ·rw[aY.gr]at hb2
    rw[aY.gL _ _ g1]at hb1
    obtain⟨rfl,_⟩:=hb2
    exact absurd (h.inj j k o1 o b N1 N g3 hk hw1 hb1 hb) g2
   ·rw[aY.gL _ _ g1]at hb1
    rw[aY.gL _ _ f1]at hb2
    exact h.inj j j' o1 o2 b1 N1 N2 g3 f3 hw1 hb1 hb2
 ·intro j y hj
  by_cases hjK:j=K
  ·rw[hjK];exact hDK
  ·rw[aY.gL _ _ hjK]at hj
   exact hD _ (h.dom j y hj)
 ·intro j b1 N1 hj
  rw[setRow_size]
  by_cases hjK:j=K
  ·subst hjK
   rw[aY.gr]at hj
   simp at hj
   rw[<-hj.1]
   exact h.lt k b N hb
  ·rw[aY.gL _ _ hjK]at hj
   exact h.lt j b1 N1 hj
 ·intro b' hb' hm
  have hne:b'≠b:=fun e=>by
   subst e
   rcases h.new k o b' N hk hw hb with h1|h1
   ·omega
   ·exact hm h1
  rw[hother b' hne];exact h.block b' hb' hm
 ·intro j oj b1 N1 hj ho hb1
  rcases hl' j oj hj with⟨rfl,rfl⟩|⟨g1,g2,g3⟩
  ·rw[aY.gr]at hb1
   simp at hb1
   rw[<-hb1.1]
   exact h.new k o b N hk hw hb
  ·rw[aY.gL _ _ g1]at hb1
   exact h.new j oj b1 N1 g3 ho hb1
theorem bF.EB (h:bF c st D β w) {k:Nat} {o o':au} (hk:look k st=some o) (ho:o'=o):bF c (put k o' st) D β w/\cV (aO c st β) w β (aO c (put k o' st) β) w β:=by
 subst ho
 have he:∀j,look j (put k o' st)=look j st:=fun j=>by
  by_cases hj:j=k
  ·subst hj;rw[jd,hk]
  ·rw[gl hj]
 have hM:aO c (put k o' st) β=aO c st β:=by
  funext b
  simp only[aO,he]
 refine⟨?_,by rw[hM];exact cV.refl _ _ _⟩
 refine {h with obj:=fun k o hk=>?_,dS:=fun k o hk=>h.dS k o (by grind),inj:=fun k k' o o' b N N' h1 h2=>?_,new:=fun k o b N h1=>?_}
 ·rw[hM];exact h.obj k o (by grind)
 ·exact h.inj k k' o o' b N N' (by grind) (by grind)
 ·exact h.new k o b N (by grind)
theorem bF.J0 (h:bF c st D β w) {K:Nat} (hK:¬D K) (hD:∀k,D k->D' k) (hDK:D' K) {o:au} (hr:o.row=true) (hl:o.len=0) (h0:0<o.es):
  bF c (put K o st) D' β w/\cV (aO c st β) w β (aO c (put K o st) β) w β:=by
 have hbK:=h.fresh hK
 have hl':∀j oj x,look j (put K o st)=some oj->β j=some x->look j st=some oj:=fun j oj x hj hb=>by
  have:j≠K:=fun e=>by grind
  rwa [gl this]at hj
 have hmm:∀b',aO c (put K o st) β b'->aO c st β b':=fun b' hm=>by
  rcases hm with hm|⟨j,oj,Nj,h1,h2,h3⟩
  ·exact .inl hm
  ·exact .inr ⟨j,oj,Nj,hl' j oj _ h1 h3,h2,h3⟩
 have e:cV (aO c st β) w β (aO c (put K o st) β) w β:=⟨fun b' x hb' hx=>⟨hx,fun hm=>hb' (hmm b' hm)⟩,fun _ _ h=>h⟩
 refine⟨?_,e⟩
 refine {h with obj:=?_,dS:=fun j oj hj hbj=>?_,inj:=?_,dom:=fun k x hk=>hD _ (h.dom k x hk),new:=?_}
 ·intro j oj hj x hx
  exact(h.obj j oj (hl' j oj x hj hx) x hx).iM e (fun _ _ _ _ _ hx=>hx) (fun b1 N1 hb1 ho=>.inr ⟨j,oj,N1,hj,ho,hb1⟩)
 ·by_cases hjK:j=K
  ·subst hjK
   rw[jd]at hj
   grind
  ·rw[gl hjK]at hj
   exact⟨(h.dS j oj hj hbj).1,hD _ (h.dS j oj hj hbj).2⟩
 ·exact fun j j' o1 o2 b1 N1 N2 h1 h2 hw hb1 hb2=>h.inj j j' o1 o2 b1 N1 N2 (hl' _ _ _ h1 hb1) (hl' _ _ _ h2 hb2) hw hb1 hb2
 ·exact fun j oj b1 N1 hj ho hb=>h.new j oj b1 N1 (hl' _ _ _ hj hb) ho hb
end change
end Go.Am
namespace Go.Am
open AV
structure b9 (P:Program) (t:TypeId) (ti:TI):Prop where
 dA:P.underlying t=some ti.desc
 info:∃i,P.info? t=some i/\i.size=ti.size/\i.bytes=ti.bytes
 zero:ti.zero.isTuple=false->∃i z,P.info? t=some i/\i.zero=some z/\∀M w β,bw M w β ti.zero z
def fu (P:Program) (T:Types):Prop:=∀t ti,look t T=some ti->b9 P t ti
def lX (P:Program) (s:Sem Next) (w:World) (R:Value->World->Prop):Prop:=
 (∃x w',s.run P w=.ok (.value x) w'/\R x w')\/(∃w',s.run P w=.ok .skip w'/\R undef w')\/
 (∃f vs,s.run P w=.ok (.enter f vs) w/\Calls P f vs w fun e w'=>∃x,e=.returned x/\R x w')
def iK (ro:Option Nat):Fence:={fn:=fun _=>True,depth:=none,alive:=false,round:=ro}
theorem lX.wpIn {P:Program} {o:Oper} {a:Act} {w:World} {R:Value->World->Prop} {next:Act->World->Prop} {Q:Exit->Act->World->Prop} {ro:Option Nat} (hd:∀c,o.op≠.defer c)
  (h:lX P (execOp a.eval o) w R) (hn:∀x w',R x w'->next (a.put o.dst x) w'):o.wpIn (iK ro) 3 P a w next Q:=by
 refine⟨fun _ _=>trivial,?_⟩
 rw[Oper.semAt_eq _ _ _ hd]
 rcases h with⟨x,w',h1,h2⟩|⟨w',h1,h2⟩|⟨f,vs,h1,h2⟩
 ·rw[h1];exact hn x w' h2
 ·rw[h1];exact hn undef w' h2
 ·rw[h1]
  refine⟨fun _=>by decide,?_⟩
  refine CallsIn.mono (F:=iK ro) ((callsIn_wide (n:=3-1)).2 h2) fun e w' he=>?_
  grind
theorem lX.mono {P:Program} {s:Sem Next} {w:World} {R R':Value->World->Prop} (h:lX P s w R) (hr:∀x w',R x w'->R' x w'):lX P s w R':=by
 rcases h with⟨x,w',h1,h2⟩|⟨w',h1,h2⟩|⟨f,vs,h1,h2⟩
 ·exact .inl ⟨x,w',h1,hr _ _ h2⟩
 ·exact .inr (.inl ⟨w',h1,hr _ _ h2⟩)
 ·exact .inr (.inr ⟨f,vs,h1,h2.mono fun e w' ⟨x,he,hx⟩=>⟨x,he,hr _ _ hx⟩⟩)
def fo (c:Ctx) (st:aC) (D':Nat->Prop) (β:aY) (w:World) (cu:List (Nat×Option au)) (v:AV) (x:Value) (w':World):Prop:=
 ∃β',bF c (cM cu st) D' β' w'/\cV (aO c st β) w β (aO c (cM cu st) β') w' β'/\bK (aO c (cM cu st) β') w' β' v x
section inv
variable {M:Nat->Prop} {w:World} {β:aY} {x:Value}
theorem bK.bool {b:Bool} (h:bK M w β (.bool b) x):x=.bool b:=by
 have:=h.cell rfl
 cases this;rfl
theorem bK.int {k:IntKind} {n:Int} (h:bK M w β (.int k n) x):x=.int k n:=by
 have:=h.cell rfl
 cases this;rfl
theorem bK.func {f:FuncId} {caps:List AV} (h:bK M w β (.func f caps) x):
  ∃vs:List Value,x=.func (.func f) #[] vs.toArray/\aN M w β caps vs/\(caps.all fun v=>!v.isAgg&&!v.isTuple)=true:=by
 have:=h.cell rfl
 cases this with
 |func h1 h2 _=>grind
theorem bK.str {s:List UInt8} (h:bK M w β (.str s) x):x=.string ⟨s.toArray⟩:=by
 have:=h.cell rfl
 cases this;rfl
theorem bK.ptr {k idx es off:Nat} {p:List Nat} (h:bK M w β (.ptr k idx es off p) x):∃b N,β k=some (b,N)/\x=.pointer (some ⟨b,idx*es+off,none⟩):=by
 have:=h.cell rfl
 cases this with
 |ptr h1 _=>grind
theorem bK.bg {v:AV} (h:bK M w β (.bg v) x):∃b o ps,x=.pointer (some ⟨b,o,none⟩)/\aN M w bG [v] ps/\iy M w b o ps:=by
 have:=h.cell rfl
 cases this with
 |bg h1 h2 _=>grind
theorem bK.own {k es s n:Nat} (h:bK M w β (.own k es s n) x):
  (∃b o cap,∃N:Nat×Nat,x=.slice (some ⟨b,o,none⟩) n cap/\β k=some (b,N)/\s+cap<=N.1/\s+n<=N.2/\n<=cap/\(cap=0\/o=s*es)/\0<es)\/(x=.slice none 0 0/\s=0/\n=0/\0<es):=by
 have:=h.cell rfl
 cases this with
 |own h1 h2 h3 h4 h5 _=>grind
 |own0 h5 _=>grind
theorem bK.bO {n:Nat} {v:AV} (h:bK M w β (.bO n v) x):∃base m,x=.slice base m n/\v.isAgg=false/\bw M w β v x:=by
 have:=h.cell rfl
 cases this with
 |bO ha h1 _=>exact⟨_,_,rfl,ha,.cD h1 ha⟩
theorem bK.nil (h:bK M w β .nil x):x=.slice none 0 0:=by
 have:=h.cell rfl
 cases this;rfl
theorem bK.mag {N:Nat} (h:bK M w β (.mag N) x):
  ∃base cap,x=.slice base (nl N) cap/\(N=0\/∃b o,base=some ⟨b,o,none⟩/\iy M w b o (uj N))/\nl N<=cap:=by
 have:=h.cell rfl
 cases this with
 |mag h1 h2 _=>grind
theorem bK.ak {es n:Nat} {f:Nat->AV} (h:bK M w β (.ak es n f) x):
  ∃base cap,∃cf:Nat->List Value,x=.slice base n cap/\(n=0\/∃b o,base=some ⟨b,o,none⟩/\∀i,i<n->iy M w b (o+i*es) (cf i))/\0<es/\n<=cap/\
   (∀i,i<n->(cf i).length=es)/\∀i,i<n->aN M w bG [f i] (cf i):=by
 have:=h.cell rfl
 cases this with
 |ak h1 h2 h3 h4 h5 _=>exact⟨_,_,_,rfl,h1,h2,h3,h4,h5⟩
theorem bw.bG {v:AV} (h:bw M w bG v x):bw M w β v x:=
 bw.mono (fun _ _ h h'=>⟨h',h⟩) (fun k y h=>by cases h) h
theorem bK.one {v:AV} (h:bK M w β v x) (hv:v.isTuple=false):bw M w β v x:=by rwa [bK.F7 hv]at h
end inv
theorem A5 {N i:Nat} (h:i<nl N):(uj N)[i]?=some (.int .u32 (aD N i)):=by simp[uj,h]
theorem vJ:nl 0=0:=by rfl
theorem Bf {w:World} {b o:Nat} {cs:Array Value} {ty:TypeId} {fr:Nat×Nat} (h:w.heap[b]?=some (.cells cs ty fr)):w.cell? ⟨b,o,none⟩=cs[o]?:=by
 simp[World.cell?,h]
theorem iy.range {M:Nat->Prop} {w:World} {b o:Nat} {ps:List Value} (h:iy M w b o ps):w.rangeAt b o ps:=by
 obtain⟨cs,ty,fr,h1,_,h3⟩:=h
 intro j v hv
 rw[Bf h1]
 grind
section load
variable {P:Program} {w:World}
theorem IP {M:Nat->Prop} {β:aY} {t:TypeId} {ti:TI} (ht:b9 P t ti) {b o:Nat} {ps:List Value} (hr:w.rangeAt b o ps) {v:AV} (hv:aN M w β [v] ps)
  (hs:v.size=ti.size) (ha:v.isAgg=mU ti.desc):∃x,(Instr.loadAt t (.pointer (some ⟨b,o,none⟩))).run P w=.ok x w/\bw M w β v x:=by
 obtain⟨i,hi,his,_⟩:=ht.info
 have hlen:ps.length=ti.size:=by rw[hv.length];exact hs
 by_cases hagg:mU ti.desc=true
 ·refine⟨.agg ps.toArray,run_loadAt_mid (P:=P) w b o t ps ti.desc hr ht.dA ?_ (by grind),bw.Av hv (by grind)⟩
  cases hd:ti.desc<;>simp_all [mU,TypeDesc.isRow]
 ·have hva:v.isAgg=false:=by grind
  have h1:ps.length=1:=by
   rw[hlen,<-hs]
   cases v<;>first|rfl|cases hva
  obtain⟨x,rfl⟩:∃x,ps=[x]:=by
   match ps,h1 with
   |[x],_=>simp
  refine⟨x,?_,bw.cD hv hva⟩
  have hc:w.cell? ⟨b,o,none⟩=some x:=by simpa using hr 0 x (by simp)
  have hg:(isAgg t).run P w=.ok false w:=by
   unfold Go.isAgg
   rw[Sem.run_bind,run_underlying ht.dA w]
   cases hd:ti.desc<;>simp_all [mU]
  simp[Instr.loadAt,Instr.sureAddr,loadVar,Sem.run_bind,hg,hc]
def splice (cs:Array Value) (o:Nat) (ps:List Value):Array Value:=(cs.toList.take o++ps++cs.toList.drop (o+ps.length)).toArray
theorem zw {cs:Array Value} {o:Nat} {ps:List Value} (h:o+ps.length<=cs.size):(splice cs o ps).size=cs.size:=by
 simp[splice];omega
theorem mV {cs:Array Value} {o:Nat} {ps:List Value} (h:o+ps.length<=cs.size) (i:Nat):
  (splice cs o ps)[i]?=if o<=i/\i<o+ps.length then ps[i-o]? else cs[i]?:=by
 simp only[splice,List.getElem?_toArray,List.append_assoc]
 grind
theorem RT {M:Nat->Prop} {β:aY} {t:TypeId} {ti:TI} (ht:b9 P t ti) {b o:Nat} {cs:Array Value} {ty:TypeId} (hh:w.heap[b]?=some (.cells cs ty (0,0)))
  {v:AV} {x:Value} (hv:bw M w β v x) (hs:v.size=ti.size) (hfit:o+ti.size<=cs.size):
  (Instr.storeAt t (.pointer (some ⟨b,o,none⟩)) x).run P w=.ok () (w.setRow b (splice cs o x.cells.toList)):=by
 obtain⟨i,hi,his,_⟩:=ht.info
 have hc:=hv.cells
 have hlen:x.cells.toList.length=ti.size:=by rw[hc.length];exact hs
 have hst:=run_storeCells_at P b o ty x.cells.toList 0 cs w hh aa hc.Hx
 have hsz:x.cells.size=i.size:=by grind
 simp[Instr.storeAt,Instr.sureAddr,storeVar,sizeOf,typeInfo,hi,hsz,splice,hst]
end load
theorem Ex {cs:Array Value} {base:Nat} {pr cc po:List Value} (h:∀j v,(pr++(cc++po))[j]?=some v->cs[base+j]?=some v):
  ∀j v,cc[j]?=some v->cs[base+pr.length+j]?=some v:=by
 intro j v hv
 have:=h (pr.length+j) v (by grind)
 grind
section rel
variable {c:Ctx} {st:aC} {D:Nat->Prop} {β:aY} {w:World}
theorem ae2 {M:Nat->Prop} {w:World} {β:aY} {N:Nat} {cs:List Value} (h:aN M w β [.mag N] cs):aN M w bG [.mag N] cs:=by
 cases h with
 |mag h1 h2 h3=>cases h3;exact .mag h1 h2 .nil
mutual
theorem Cm (h:bF c st D β w) {pre:aC} (hpre:∀k o,look k pre=some o->look k st=some o):∀{v u:AV} {cs:List Value},dj pre v=some u->aN (aO c st β) w β [v] cs->
  aN (aO c st β) w bG [u] cs/\u.isAgg=v.isAgg
 |.bool b,u,cs,hf,hv=>by simp only[dj,ay]at hf;subst hf;cases hv with|bool h=>cases h;exact⟨.bool .nil,rfl⟩
 |.int k n,u,cs,hf,hv=>by simp only[dj,ay]at hf;subst hf;cases hv with|int h=>cases h;exact⟨.int .nil,rfl⟩
 |.rat q n,u,cs,hf,hv=>by simp only[dj,ay]at hf;subst hf;cases hv with|rat h1 h2 h3 h=>cases h;exact⟨.rat h1 h2 h3 .nil,rfl⟩
 |.mag N,u,cs,hf,hv=>by simp only[dj,ay]at hf;subst hf;exact⟨ae2 hv,rfl⟩
 |.ak es n f,u,cs,hf,hv=>by simp only[dj,ay]at hf;subst hf;cases hv with|ak h1 h2 h3 h4 h5 h=>cases h;exact⟨.ak h1 h2 h3 h4 h5 .nil,rfl⟩
 |.eR b es n f,u,cs,hf,hv=>by simp only[dj,ay]at hf;subst hf;cases hv with|eR h0 h1 h2 h3 h4 h5 h=>cases h;exact⟨.eR h0 h1 h2 h3 h4 h5 .nil,rfl⟩
 |.nil,u,cs,hf,hv=>by simp only[dj,ay]at hf;subst hf;cases hv with|vnil h=>cases h;exact⟨.vnil .nil,rfl⟩
 |.str _,u,cs,hf,hv=>by simp only[dj,ay]at hf;subst hf;cases hv with|str h=>cases h;exact⟨.str .nil,rfl⟩
 |.void,u,cs,hf,hv=>by simp only[dj,ay]at hf;subst hf;cases hv with|void hx h=>cases h;exact⟨.void hx .nil,rfl⟩
 |.bg v,u,cs,hf,hv=>by simp only[dj,ay]at hf;subst hf;cases hv with|bg h1 h2 h=>cases h;exact⟨.bg h1 h2 .nil,rfl⟩
 |.ptr _ _ _ _ _,u,cs,hf,hv=>by simp[dj]at hf
 |.tuple _,u,cs,hf,hv=>by simp[dj]at hf
 |.bO c v,u,cs,hf,hv=>by
  simp only[dj]at hf
  cases hl:dj pre v with
  |none=>rw[hl]at hf;simp at hf
  |some m=>
   rw[hl]at hf
   simp only[ay]at hf
   subst hf
   cases hv with
   |bO ha h1 h2=>
    cases h2
    obtain⟨q1,q2⟩:=Cm h hpre hl h1
    exact⟨.bO (by rw[q2];exact ha) q1 .nil,rfl⟩
 |.func f l,u,cs,hf,hv=>by
  simp only[dj]at hf
  cases hl:fA pre l with
  |none=>rw[hl]at hf;simp at hf
  |some m=>
   rw[hl]at hf
   simp only at hf
   split at hf
   ·rename_i hall
    simp only[ay]at hf
    subst hf
    cases hv with
    |func h1 h2 h3=>
     cases h3
     exact⟨.func (AB h hpre hl h1) hall .nil,rfl⟩
   ·simp at hf
 |.agg l,u,cs,hf,hv=>by
  simp only[dj]at hf
  cases hl:fA pre l with
  |none=>rw[hl]at hf;simp at hf
  |some m=>
   rw[hl]at hf
   simp only[ay]at hf
   subst hf
   cases hv with
   |agg h1 h2=>
    cases h2
    exact⟨.agg (AB h hpre hl h1) .nil,rfl⟩
 |.own k es s n,u,cs,hf,hv=>by
  simp only[dj]at hf
  cases hl:look k pre with
  |none=>rw[hl]at hf;simp at hf
  |some o=>
   rw[hl]at hf
   simp only at hf
   split at hf
   ·rename_i hc
    simp only[ay]at hf
    subst hf
    simp only[Bool.and_eq_true,Bool.not_eq_true',beq_iff_eq]at hc
    obtain⟨⟨hr,hw⟩,hes⟩:=hc
    cases hv with
    |own0 h5 h6=>
     cases h6
     exact⟨.ak (cf:=fun _=>[]) (.inl rfl) h5 bz (fun i hi=>aa) (fun i hi=>aa) .nil,rfl⟩
    |own h1 h2 h3 h4 h5 h6=>
     cases h6
     rename_i cap b N o'
     obtain⟨b1,N1,cs1,ty,a1,a2,a3,a4,⟨a5,a5'⟩,a6,a7,a8⟩:=h.obj k o (hpre k o hl) _ h1
     rw[h1]at a1
     simp only[ay,Prod.mk.injEq]at a1
     obtain⟨rfl,rfl⟩:=a1
     have hcf:∀i,∃ps:List Value,i<n->ps.length=es/\aN (aO c st β) w bG [o.f (i+s)] ps/\∀j v,ps[j]?=some v->cs1[(i+s)*o.es+j]?=some v:=fun i=>by
      by_cases hi:i<n
      ·obtain⟨ps,p1,p2,p3⟩:=a8 (i+s) aa
       rw[hr]at p2
       exact⟨ps,fun _=>⟨aa,p2,p3⟩⟩
      ·exact⟨[],fun h=>absurd h hi⟩
     obtain⟨cf,hcf⟩:∃cf:Nat->List Value,∀i,i<n->(cf i).length=es/\aN (aO c st β) w bG [o.f (i+s)] (cf i)/\∀j v,(cf i)[j]?=some v->cs1[(i+s)*o.es+j]?=some v:=
      ⟨fun i=>Classical.choose (hcf i),fun i=>Classical.choose_spec (hcf i)⟩
     refine⟨.ak (cf:=cf) ?_ h5 h3 (fun i hi=>(hcf i hi).1) (fun i hi=>(hcf i hi).2.1) .nil,rfl⟩
     rcases h4 with h4|h4
     ·left;omega
     ·right
      refine⟨b,o',rfl,fun i hi=>⟨cs1,ty,(0,0),a2,a7 hw,fun j v hv=>?_⟩⟩
      have:=(hcf i hi).2.2 j v hv
      rw[Nat.add_mul,hes]at this
      rw[h4,Nat.add_comm (s*es)];exact this
   ·simp at hf
theorem AB (h:bF c st D β w) {pre:aC} (hpre:∀k o,look k pre=some o->look k st=some o):∀{l m:List AV} {cs:List Value},fA pre l=some m->aN (aO c st β) w β l cs->
  aN (aO c st β) w bG m cs
 |[],m,cs,hf,hv=>by simp only[fA,ay]at hf;subst hf;cases hv;exact .nil
 |a::l,m,cs,hf,hv=>by
  simp only[fA]at hf
  obtain⟨c1,c2,rfl,h1,h2⟩:=hv.split
  cases ha:dj pre a with
  |none=>rw[ha]at hf;simp at hf
  |some b=>
   cases hl:fA pre l with
   |none=>rw[ha,hl]at hf;simp at hf
   |some m'=>
    rw[ha,hl]at hf
    simp only[ay]at hf
    subst hf
    exact(Cm h hpre ha h1).1.cons (AB h hpre hl h2)
end
end rel
end Go.Am
namespace Go.Am
open AV
section ops
variable {P:Program} {T:Types} (hT:fu P T)
variable {c:Ctx} {st pre:aC} {D D':Nat->Prop} {β:aY} {w:World}
theorem dZ (h:bF c st D β w) (hD:∀k,D k->D' k) {v:AV} {x:Value} (hv:bK (aO c st β) w β v x):fo c st D' β w [] v x w:=
 ⟨β,h.mH hD,cV.refl _ _ _,hv⟩
theorem cN {s:Sem Next} {x:Value} {w':World} {R:Value->World->Prop} (hr:s.run P w=.ok (.value x) w') (h:R x w'):lX P s w R:=.inl ⟨x,w',hr,h⟩
theorem bF.elem (h:bF c st D β w) {k:Nat} {o:au} (hk:look k st=some o) {b:Nat} {N:Nat×Nat} (hb:β k=some (b,N)) {i:Nat} (hi:i<o.len):
  ∃cs ty ps,w.heap[b]?=some (.cells cs ty (0,0))/\ps.length=o.es/\aN (aO c st β) w (if o.row then bG else β) [o.f i] ps/\
   (∀j v,ps[j]?=some v->cs[i*o.es+j]?=some v)/\(i+1)*o.es<=cs.size/\cs.size=N.1*o.es/\
   ∀i',i'<o.len->∃ps',ps'.length=o.es/\aN (aO c st β) w (if o.row then bG else β) [o.f i'] ps'/\∀j v,ps'[j]?=some v->cs[i'*o.es+j]?=some v:=by
 obtain⟨b1,N1,cs,ty,a1,a2,a3,a4,⟨a5,a5'⟩,a6,a7,a8⟩:=h.obj k o hk _ hb
 rw[hb]at a1
 simp only[ay,Prod.mk.injEq]at a1
 obtain⟨rfl,rfl⟩:=a1
 obtain⟨ps,p1,p2,p3⟩:=a8 i hi
 exact⟨cs,ty,ps,a2,p1,p2,p3,by rw[a3];exact Nat.mul_le_mul_right _ aa,a3,a8⟩
theorem aN.lift {M:Nat->Prop} {w:World} {β:aY} {r:Bool} {l:List AV} {cs:List Value} (h:aN M w (if r then bG else β) l cs):aN M w β l cs:=by
 cases r
 ·exact h
 ·exact h.mono (fun _ _ h h'=>⟨h',h⟩) _ fun k x h=>by simp[bG]at h
include hT in
theorem PZ (h:bF c st D β w) (hpre:∀k o,look k pre=some o->look k st=some o) {t:TypeId} {ti:TI} (ht:look t T=some ti) {p:AV} {x:Value}
  (hp:bK (aO c st β) w β p x) {r:fk} (hr:qN pre ti p=some r) (need:r.need):
  r.cu=[]/\∃y,(Instr.loadAt t x).run P w=.ok y w/\bw (aO c st β) w β r.val y:=by
 cases p with
 |bg v=>
  simp only[qN]at hr
  split at hr
  ·rename_i hc
   simp only[cq,ay]at hr
   subst hr
   simp only[Bool.and_eq_true,beq_iff_eq]at hc
   obtain⟨b,o,ps,rfl,h1,h2⟩:=hp.bg
   obtain⟨y,hy,hv⟩:=IP (hT t ti ht) (w:=w) h2.range h1 hc.1.1 hc.1.2
   exact⟨rfl,y,hy,hv.bG⟩
  ·simp at hr
 |ptr k idx es off path=>
  simp only[qN]at hr
  cases hk:look k pre with
  |none=>rw[hk]at hr;simp at hr
  |some o=>
   rw[hk]at hr
   simp only at hr
   split at hr
   ·rename_i hc
    cases hg:(o.f idx).o8 path with
    |none=>rw[hg]at hr;simp at hr
    |some v=>
     rw[hg]at hr
     simp only at hr
     split at hr
     ·rename_i hd
      simp only[ay]at hr
      subst hr
      simp only[Bool.and_eq_true,beq_iff_eq]at hc hd
      obtain⟨b,N,hb,rfl⟩:=hp.ptr
      obtain⟨cs,ty,ps,e1,e2,e3,e4,e5,e6,_⟩:=h.elem (hpre k o hk) hb need
      obtain⟨pr,cc,po,rfl,q1,q2,_⟩:=aN.path path e3 v hg
      have hr:w.rangeAt b (idx*es+off) cc:=by
       intro j u hu
       rw[Bf e1,<-hc.1,<-hc.2,<-q1]
       exact Ex e4 j u hu
      obtain⟨y,hy,hv⟩:=IP (hT t ti ht) (w:=w) hr q2.lift hd.1.1 hd.1.2
      exact⟨rfl,y,hy,hv⟩
     ·simp at hr
   ·simp at hr
 |_=>simp[qN]at hr
mutual
theorem G8 {b:Bool}:∀{u v:AV},p9 b u v=if b=true then u else v
 |.rat q n,v=>by cases v<;>cases b<;>simp[p9]
 |.agg l,.agg m=>by
  simp only[p9]
  split
  ·rename_i x hx
   rw[Pg hx];split<;>rfl
  ·rfl
 |.agg l,.rat .. |.agg l,.bool .. |.agg l,.int .. |.agg l,.mag .. |.agg l,.ak .. |.agg l,.eR .. |.agg l,.nil|.agg l,.void|.agg l,.str .. |.agg l,.bg .. |.agg l,.ptr .. |.agg l,.own .. |.agg l,.func .. |.agg l,.tuple .. |.agg l,.bO .. =>by simp[p9]
 |.bool ..,v|.int ..,v|.mag ..,v|.ak ..,v|.eR ..,v|.nil,v|.void,v|.str ..,v|.bg ..,v|.ptr ..,v|.own ..,v|.func ..,v|.tuple ..,v|.bO ..,v=>by simp[p9]
theorem Pg {b:Bool}:∀{l m x:List AV},rW b l m=some x->x=if b=true then l else m
 |[],[],x,h=>by simp only[rW,ay]at h;subst h;split<;>rfl
 |u::l,v::m,x,h=>by
  simp only[rW]at h
  split at h
  ·rename_i y hy
   simp only[ay]at h
   subst h
   rw[Pg hy,G8];split<;>rfl
  ·simp at h
 |[],_::_,x,h=>by simp[rW]at h
 |_::_,[],x,h=>by simp[rW]at h
end
theorem afj {b:Bool} {k:IntKind} {n:Int} {v:AV}:DV b k n v=if b=true then .int k n else v:=by
 unfold DV
 split
 ·split
  ·rename_i h
   have:∀{a c:IntKind},isKind a c=true->a=c:=fun {a c} h=>by cases a<;>cases c<;>first|rfl|cases h
   have:=this h
   subst this
   cases b<;>rfl
  ·rfl
 ·rfl
theorem ag3 {b x:Bool} {v:AV}:F1 b x v=if b=true then .bool x else v:=by
 unfold F1
 split
 ·cases b<;>rfl
 ·rfl
theorem VG {b:Bool} {es n:Nat} {h:Nat->AV} {v:AV}:GV b es n h v=if b=true then .ak es n h else v:=by
 unfold GV
 split
 ·split
  ·rename_i he
   have:=Nat.eq_of_beq_eq_true he
   subst this
   cases b<;>rfl
  ·rfl
 ·rfl
theorem Ij {r:Bool} {idx:Nat} {u:AV} {f:Nat->AV}:zY r idx u f=fun j=>if j==idx then u else f j:=by
 unfold zY
 split
 ·funext j;exact G8
 ·funext j;exact G8
 ·funext j;exact VG
 ·rfl
theorem WO {z r:Bool} {idx:Nat} {u:AV} {f:Nat->AV}:Ee z r idx u f=fun j=>if j==idx then u else f j:=by
 unfold Ee
 split
 ·unfold KM
  split
  ·funext j;exact afj
  ·funext j;exact ag3
  ·exact Ij
 ·exact Ij
include hT in
theorem VS (h:bF c st D β w) (hpre:∀k o,look k pre=some o->look k st=some o) (hD:∀k,D k->D' k) {t:TypeId} {ti:TI} (ht:look t T=some ti) {p v:AV} {x y:Value}
  (hp:bK (aO c st β) w β p x) (hv:bK (aO c st β) w β v y) {r:fk} {z:Bool} (hr:zo z pre ti p v=some r) (need:r.need):
  ∃w',(Instr.storeAt t x y).run P w=.ok () w'/\fo c st D' β w r.cu r.val undef w':=by
 cases p with
 |ptr k idx es off path=>
  simp only[zo,WO]at hr
  cases hk:look k pre with
  |none=>rw[hk]at hr;simp at hr
  |some o=>
   rw[hk]at hr
   simp only at hr
   split at hr
   ·rename_i hc
    simp only[Bool.and_eq_true,beq_iff_eq,Bool.not_eq_true']at hc
    obtain⟨⟨⟨⟨hes,hwr⟩,hoff⟩,hsz⟩,htup⟩:=hc
    cases hg:(o.f idx).o8 path with
    |none=>rw[hg]at hr;simp at hr
    |some u0=>
     cases hy:(if o.row then dj pre v else some v)with
     |none=>rw[hg,hy]at hr;simp at hr
     |some y'=>
      rw[hg,hy]at hr
      simp only at hr
      split at hr
      ·rename_i hd
       simp only[Bool.and_eq_true,beq_iff_eq]at hd
       obtain⟨⟨hd1,hd2⟩,hd3⟩:=hd
       cases hs:(o.f idx).tc path y' with
       |none=>rw[hs]at hr;simp at hr
       |some u=>
        rw[hs]at hr
        simp only[ay]at hr
        subst hr
        have hk':=hpre k o hk
        obtain⟨b,N,hb,rfl⟩:=hp.ptr
        obtain⟨cs,ty,ps,e1,e2,e3,e4,e5,e6,e7⟩:=h.elem hk' hb need
        obtain⟨pr,cc,po,rfl,q1,q2,q3⟩:=aN.path path e3 u0 hg
        have hv1:=hv.one htup
        have hvc:=hv1.cells
        have hyc:aN (aO c st β) w (if o.row then bG else β) [y'] y.cells.toList:=by
         cases hrow:o.row with
         |false=>rw[hrow]at hy;simp only[Bool.false_eq_true,if_false,ay]at hy;subst hy;simpa using hvc
         |true=>rw[hrow]at hy;simp only[if_true]at hy;simpa using(Cm h hpre hy hvc).1
        have hlx:y.cells.toList.length=ti.size:=by rw[hvc.length];simp[sizes,hsz]
        have hlc:cc.length=ti.size:=by rw[q2.length];simp[sizes,hd1]
        have hbnd:idx*es+off+ti.size<=cs.size:=by
         have:(pr++(cc++po)).length=o.es:=e2
         simp only[List.length_append]at this
         rw[<-hes]
         rw[Nat.add_mul]at e5
         omega
        have hrun:=RT (hT t ti ht) (w:=w) e1 hv1 hsz hbnd
        refine⟨_,hrun,β,?_⟩
        have hq:=h.write (o':={o with f:=fun j=>if j==idx then u else o.f j}) hk' hwr hb e1 (zw (by rw[hlx];exact hbnd)) rfl hwr rfl (fun i hi=>?_)
        ·simp only[cM]
         exact⟨hq.1.mH hD,hq.2,[],by simp[undef],trivial⟩
        ·have hi':i<o.len:=hi
         by_cases hii:i=idx
         ·subst hii
          refine⟨pr++(y.cells.toList++po),?_,?_,fun j z hz=>?_⟩
          ·have:(pr++(cc++po)).length=o.es:=e2
           simp only[List.length_append]at this ⊢
           simp only at*
           omega
          ·simpa using q3 y' u _ hyc hs
          ·rw[mV (by rw[hlx];exact hbnd),hlx]
           have hlen:(pr++(y.cells.toList++po)).length=o.es:=by
            have:(pr++(cc++po)).length=o.es:=e2
            simp only[List.length_append]at this ⊢;omega
           have hj:j<o.es:=by rw[<-hlen];exact(List.getElem?_eq_some_iff.1 hz).1
           have hprl:pr.length=off:=by rw[q1,hoff]
           simp only[hes]at*
           by_cases hin:off<=j/\j<off+ti.size
           ·rw[if_pos aa]
            rw[List.getElem?_append_right aa,List.getElem?_append_left aa]at hz
            have:i*es+j-(i*es+off)=j-pr.length:=aa
            rw[this];exact hz
           ·rw[if_neg aa]
            apply e4
            rcases Nat.lt_or_ge j off with hlt|hge
            ·rw[List.getElem?_append_left aa]at hz ⊢;exact hz
            ·rw[List.getElem?_append_right aa,List.getElem?_append_right aa]at hz ⊢
             rw[hlx]at hz
             rw[hlc];exact hz
         ·obtain⟨ps',f1,f2,f3⟩:=e7 i hi'
          refine⟨ps',f1,?_,fun j z hz=>?_⟩
          ·have:(i==idx)=false:=by simpa using hii
           simpa [this]using f2
          ·rw[mV (by rw[hlx];exact hbnd),hlx]
           have hj:j<o.es:=by rw[<-f1];exact(List.getElem?_eq_some_iff.1 hz).1
           have hlen:(pr++(cc++po)).length=o.es:=e2
           simp only[List.length_append]at hlen
           have hne:¬(idx*es+off<=i*o.es+j/\i*o.es+j<idx*es+off+ti.size):=by
            rw[<-hes]
            rcases Nat.lt_or_gt_of_ne hii with hlt|hgt
            ·have:=Nat.mul_le_mul_right o.es (show i+1<=idx by omega)
             rw[Nat.add_mul]at this;omega
            ·have:=Nat.mul_le_mul_right o.es (show idx+1<=i by omega)
             rw[Nat.add_mul]at this;omega
           rw[if_neg hne];exact f3 j z hz
      ·simp at hr
   ·simp at hr
 |_=>simp[zo]at hr
end ops
end Go.Am
namespace Go.Am
open AV
section ops
variable {P:Program} {T:Types} (hT:fu P T)
variable {c:Ctx} {st pre:aC} {D D':Nat->Prop} {β:aY} {w:World}
theorem CF {k j:IntKind} (h:isKind k j=true):k=j:=by cases k<;>cases j<;>first|rfl|cases h
include hT in
theorem Uo {op:BinOp} {t t':TypeId} {x y:Operand} {a b:AV} {u v:Value} (ha:bK (aO c st β) w β a u) (hb:bK (aO c st β) w β b v) {r:fk} (hr:qV T t' op a b=some r) (need:r.need):
  r.cu=[]/\∃z,(do eqGuard op t x y u v;binOp op t' u v:Sem Value).run P w=.ok z w/\bw (aO c st β) w β r.val z:=by
 have hint:∀k n,bw (aO c st β) w β (.int k n) (.int k n):=fun k n=>.cD (.int .nil) rfl
 have hbool:∀t,bw (aO c st β) w β (.bool t) (.bool t):=fun t=>.cD (.bool .nil) rfl
 cases a with
 |int k m=>
  cases b with
  |int j n=>
   have:=ha.int;subst this
   have:=hb.int;subst this
   simp only[eqGuard_at_int]
   cases op<;>simp only[qV]at hr
   case shl=>
    simp only[ay]at hr;subst hr
    refine⟨rfl,_,?_,hint _ _⟩
    have need:0<=n:=need
    have:¬n<0:=aa
    simp[binOp,Op.shift,this]
   case shr=>
    simp only[ay]at hr;subst hr
    refine⟨rfl,_,?_,hint _ _⟩
    have need:0<=n:=need
    have:¬n<0:=aa
    simp[binOp,Op.shift,this]
   all_goals
    split at hr
    ·rename_i hk
     have:=CF hk
     subst this
     simp only[Fm,cq,ay,reduceCtorEq]at hr<;>subst hr<;>first
      |(refine⟨rfl,_,?_,hint _ _⟩;(first
        |(simp[binOp,Op.intArith];done)
        |(have need:n≠0:=need;simp only[binOp,ne_eq,not_true,if_false,Op.intDiv,need];rfl)
        |(simp only[binOp,ne_eq,not_true,if_false,Op.intBits];rfl)))
      |(refine⟨rfl,_,?_,hbool _⟩;(simp[binOp,Op.intCmp];done))
    ·simp at hr
  |_=>cases op<;>simp[qV]at hr
 |bool m=>
  cases b with
  |bool n=>
   have:=ha.bool;subst this
   have:=hb.bool;subst this
   simp only[eqGuard_at_bool]
   simp only[qV]at hr
   split at hr
   ·rename_i i1 i2 i3 ht
    have he:(Op.equal t' (.bool m) (.bool n)).run P w=.ok (m==n) w:=run_equal_bool w t' m n (hT _ _ ht).dA
    cases op<;>simp only[cq,ay,reduceCtorEq]at hr
    case eql=>subst hr;exact⟨rfl,_,by simp[binOp,he],hbool _⟩
    case neq=>subst hr;exact⟨rfl,_,by simp[binOp,he,bne],hbool _⟩
   ·simp at hr
  |_=>simp[qV]at hr
 |_=>simp[qV]at hr
include hT in
theorem acH (h:bF c st D β w) (hD:∀k,D k->D' k) {K:Nat} (hK:¬D K) (hDK:D' K) {t:TypeId} {ti:TI} (ht:look t T=some ti)
  (h1:ti.size≠0) (h2:ti.zero.size=ti.size) (h3:ti.zero.isTuple=false):
  ∃x w',(Instr.alloc t true (.tuple #[])).run P w=.ok x w'/\fo c st D' β w [(K,some ⟨false,true,ti.size,1,fun _=>ti.zero⟩)] (.ptr K 0 ti.size 0 []) x w':=by
 obtain⟨i,z,hi,hz,hrep⟩:=(hT t ti ht).zero h3
 have hc:=(hrep (aO c st β) w β).cells
 have hl:z.cells.toList.length=ti.size:=by rw[hc.length];simp[sizes,h2]
 refine⟨.pointer (some ⟨w.heap.size,0,none⟩),w.alloc (.cells z.cells t),by simp[Instr.alloc,zeroValue,typeInfo,hi,hz,newVar,newRow],β.set K (w.heap.size,1,1),?_⟩
 obtain⟨q1,q2⟩:=h.alloc (D':=D') (o:=⟨false,true,ti.size,1,fun _=>ti.zero⟩) hK hD hDK rfl (cs:=z.cells) (ty:=t) (N:=1) (by simp[<-hl]) (by simp;omega) (by simp)
  (fun i hi=>⟨z.cells.toList,hl,by simpa using hc,fun j v hv=>by
   have:i=0:=by simp at hi;omega
   subst this;simpa using hv⟩)
 refine⟨q1,q2,bw.bT (.cD ?_ rfl)⟩
 simp only[cM]
 have:=aN.ptr (M:=aO c (put K ⟨false,true,ti.size,1,fun _=>ti.zero⟩ st) (β.set K (w.heap.size,1,1))) (w:=w.alloc (.cells z.cells t)) (β:=β.set K (w.heap.size,1,1)) (k:=K) (idx:=0) (es:=ti.size) (off:=0) (path:=[])
  (aY.gr _ _ _) .nil
 simpa using this
theorem aiU (h:bF c st D β w) (hD:∀k,D k->D' k) {K:Nat} (hK:¬D K) (hDK:D' K) {t:TypeId} {v:AV} {x:Value} (hv:bw (aO c st β) w β v x) (h1:v.size≠0):
  ∃y w',(Instr.box t x).run P w=.ok y w'/\fo c st D' β w [(K,some ⟨false,true,v.size,1,fun _=>v⟩)] (.ptr K 0 v.size 0 []) y w':=by
 have hc:=hv.cells
 have hl:x.cells.toList.length=v.size:=by rw[hc.length];simp[sizes]
 refine⟨.pointer (some ⟨w.heap.size,0,none⟩),w.alloc (.cells x.cells t),by simp[Instr.box,newVar,newRow],β.set K (w.heap.size,1,1),?_⟩
 obtain⟨q1,q2⟩:=h.alloc (D':=D') (o:=⟨false,true,v.size,1,fun _=>v⟩) hK hD hDK rfl (cs:=x.cells) (ty:=t) (N:=1) (by simp[<-hl]) (by simp;omega) (by simp)
  (fun i hi=>⟨x.cells.toList,hl,by simpa using hc,fun j v hv=>by
   have:i=0:=by simp at hi;omega
   subst this;simpa using hv⟩)
 refine⟨q1,q2,bw.bT (.cD ?_ rfl)⟩
 simp only[cM]
 have:=aN.ptr (M:=aO c (put K ⟨false,true,v.size,1,fun _=>v⟩ st) (β.set K (w.heap.size,1,1))) (w:=w.alloc (.cells x.cells t)) (β:=β.set K (w.heap.size,1,1)) (k:=K) (idx:=0) (es:=v.size) (off:=0) (path:=[])
  (aY.gr _ _ _) .nil
 simpa using this
theorem BI {M:Nat->Prop} {v:AV} {i off:Nat} {t:TypeId} {k:AV} (hk:jl T v i off t=some k) {cs:List Value} (hv:aN M w β [v] cs):
  ∃ti pr cc po,look t T=some ti/\v.isAgg=true/\cs=pr++(cc++po)/\pr.length=off/\cc.length=ti.size/\aN M w β [k] cc/\k.isAgg=mU ti.desc/\k.size=ti.size/\ti.size≠0/\v.kids[i]?=some k/\
   ∀a' c',aN M w β [a'] c'->aN M w β (v.kids.set i a') (pr++(c'++po)):=by
 unfold jl at hk
 cases hki:v.kids[i]? with
 |none=>rw[hki]at hk;simp at hk
 |some k'=>
  cases ht:look t T with
  |none=>rw[hki,ht]at hk;simp at hk
  |some ti=>
   rw[hki,ht]at hk
   simp only at hk
   split at hk
   ·rename_i hc
    simp only[ay]at hk
    subst hk
    simp only[Bool.and_eq_true,beq_iff_eq,bne_iff_ne,ne_eq]at hc
    obtain⟨pr,cc,po,rfl,h1,h2,h3⟩:=(hv.kids (FY hki)).at i k' hki
    refine⟨ti,pr,cc,po,rfl,FY hki,rfl,by rw[h1];exact hc.1.1.1,by rw[h2.length];simp[sizes,hc.1.1.2],h2,hc.1.2,hc.1.1.2,hc.2,rfl,h3⟩
   ·simp at hk
include hT in
theorem On {M:Nat->Prop} {v:AV} {i off:Nat} {t:TypeId} {k:AV} (hk:jl T v i off t=some k) {x:Value} (hv:bw M w β v x):
  ∃cs y,x=.agg cs/\(part t cs off).run P w=.ok y w/\bw M w β k y:=by
 obtain⟨cs,h1,h2⟩:=hv
 obtain⟨ti,pr,cc,po,ht,hagg,rfl,hp,hl,hc,ha,hs,h0,_,_⟩:=BI hk h1
 rcases h2 with⟨_,rfl⟩|⟨h2,_⟩
 ·have htk:=hT t ti ht
  obtain⟨inf,hi,his,_⟩:=htk.info
  by_cases hag:mU ti.desc=true
  ·have hg:(isAgg t).run P w=.ok true w:=by
    unfold Go.isAgg
    rw[Sem.run_bind,run_underlying htk.dA w]
    cases hd:ti.desc<;>simp_all [mU]
   refine⟨_,.agg cc.toArray,rfl,?_,bw.Av hc (by rw[ha,hag])⟩
   simp only[part,Sem.run_bind,hg,Result.andThen_ok,if_true,sizeOf,typeInfo,run_program,hi,Sem.run_pure,his]
   congr 2
   apply Array.ext'
   simp only[Array.toList_extract,List.extract_eq_take_drop]
   rw[List.drop_append_of_le_length aa,<-hp]
   simp only[List.drop_length,List.nil_append]
   rw[List.take_append_of_le_length aa]
   rw[List.take_of_length_le aa]
  ·have hag':k.isAgg=false:=by rw[ha];simpa using hag
   have hg:(isAgg t).run P w=.ok false w:=by
    unfold Go.isAgg
    rw[Sem.run_bind,run_underlying htk.dA w]
    cases hd:ti.desc<;>simp_all [mU]
   have h1l:cc.length=1:=by
    rw[hl,<-hs]
    cases k<;>first|rfl|cases hag'
   obtain⟨y,rfl⟩:∃y,cc=[y]:=by
    match cc,h1l with
    |[y],_=>exact⟨y,rfl⟩
   refine⟨_,y,rfl,?_,bw.cD hc hag'⟩
   have:(pr++([y]++po)).toArray[off]?=some y:=by
    simp[<-hp]
   simp only[part,Sem.run_bind,hg,Result.andThen_ok,Bool.false_eq_true,if_false,this,Sem.run_pure]
 ·rw[hagg]at h2;simp at h2
include hT in
theorem aer {s:TypeId} {ti:TI} (hs:look s T=some ti) {v:AV} {x:Value} (hv:bw (aO c st β) w β v x) {i:Nat} {fd:Field} (hf:oA ti.desc i=some fd) {k:AV}
  (hk:jl T v i fd.offset fd.type=some k):∃y,(Instr.field s x i).run P w=.ok y w/\bw (aO c st β) w β k y:=by
 obtain⟨cs,y,rfl,hy,hr⟩:=On hT hk hv
 refine⟨y,?_,hr⟩
 cases hd:ti.desc with
 |struct fs=>
  rw[hd]at hf
  simp only[oA]at hf
  simp only[Instr.field,Sem.run_bind,run_underlying (hd▸(hT s ti hs).dA) w,Result.andThen_ok,hf,asAgg,Sem.run_pure,hy]
 |_=>rw[hd]at hf;simp[oA]at hf
include hT in
theorem Td {t:TypeId} {ti ei:TI} (hs:look t T=some ti) {n:Nat} {e:TypeId} (hd:ti.desc=.array n e) (he:look e T=some ei) {v:AV} {x:Value} (hv:bw (aO c st β) w β v x)
  {i:Int} {kd:IntKind} {k:AV} (hk:jl T v i.toNat (i.toNat*ei.size) e=some k) (h0:0<=i) (h1:i<n):∃y,(Instr.index t x (.int kd i)).run P w=.ok y w/\bw (aO c st β) w β k y:=by
 obtain⟨cs,y,rfl,hy,hr⟩:=On hT hk hv
 refine⟨y,?_,hr⟩
 obtain⟨inf,hi,his,_⟩:=(hT e ei he).info
 simp only[Instr.index,Sem.run_bind,asIntOf,Sem.run_pure,Result.andThen_ok,run_underlying (hd▸(hT t ti hs).dA) w,if_pos (And.intro h0 h1),sizeOf,typeInfo,run_program,hi,his,hy]
include hT in
theorem M7 {s:TypeId} {ti fi:TI} (hs:look s T=some ti) {i:Nat} {fd:Field} (hf:oA ti.desc i=some fd) (ht:look fd.type T=some fi) (h0:fi.size≠0) {b o:Nat}:
  (Instr.fieldAt s (.pointer (some ⟨b,o,none⟩)) i).run P w=.ok (.pointer (some ⟨b,o+fd.offset,none⟩)) w:=by
 obtain⟨inf,hi,his,_⟩:=(hT _ fi ht).info
 cases hd:ti.desc with
 |struct fs=>
  rw[hd]at hf
  simp only[oA]at hf
  have hne:¬inf.size=0:=aa
  simp only[Instr.fieldAt,Sem.run_bind,run_underlying (hd▸(hT s ti hs).dA) w,Result.andThen_ok,hf,Instr.sureAddr,Sem.run_pure,fieldPlace,sizeOf,typeInfo,run_program,hi,if_neg hne,Addr.add_mid]
 |_=>rw[hd]at hf;simp[oA]at hf
theorem iy.part {M:Nat->Prop} {b o:Nat} {pr cc po:List Value} (h:iy M w b o (pr++(cc++po))):iy M w b (o+pr.length) cc:=by
 obtain⟨cs,ty,fr,h1,h2,h3⟩:=h
 exact⟨cs,ty,fr,h1,h2,Ex h3⟩
theorem NN {M:Nat->Prop} {v:AV} {i off:Nat} {t:TypeId} {k:AV} (hk:jl T v i off t=some k) {x:Value} (hv:bK M w β (.bg v) x):
  ∃b o,x=.pointer (some ⟨b,o,none⟩)/\bw M w β (.bg k) (.pointer (some ⟨b,o+off,none⟩)):=by
 obtain⟨b,o,ps,rfl,h1,h2⟩:=hv.bg
 obtain⟨ti,pr,cc,po,_,_,rfl,hp,_,hc,_⟩:=BI hk h1
 refine⟨b,o,rfl,.cD (.bg hc ?_ .nil) rfl⟩
 rw[<-hp];exact h2.part
include hT in
theorem It {t:TypeId} {ti ei:TI} (hs:look t T=some ti) {n:Nat} {e:TypeId} (hd:ti.desc=.array n e) (he:look e T=some ei) {b o:Nat} {kd:IntKind} {i:Int} (h0:0<=i) (h1:i<n):
  (Instr.indexAt t (.pointer (some ⟨b,o,none⟩)) (.int kd i)).run P w=.ok (.pointer (some ⟨b,o+i.toNat*ei.size,none⟩)) w:=by
 obtain⟨inf,hi,his,_⟩:=(hT e ei he).info
 simp only[Instr.indexAt,Sem.run_bind,asIntOf,Sem.run_pure,Result.andThen_ok,run_underlying (hd▸(hT t ti hs).dA) w,Instr.sureAddr,if_pos (And.intro h0 h1),sizeOf,typeInfo,run_program,hi,his,Addr.add_mid]
include hT in
theorem BU {t:TypeId} {ti ei:TI} (hs:look t T=some ti) {e:TypeId} (hd:ti.desc=.slice e) (he:look e T=some ei) {b o n cap:Nat} {kd:IntKind} {i:Int} (h0:0<=i) (h1:i<n):
  (Instr.indexAt t (.slice (some ⟨b,o,none⟩) n cap) (.int kd i)).run P w=.ok (.pointer (some ⟨b,o+i.toNat*ei.size,none⟩)) w:=by
 obtain⟨inf,hi,his,_⟩:=(hT e ei he).info
 simp only[Instr.indexAt,Sem.run_bind,asIntOf,Sem.run_pure,Result.andThen_ok,run_underlying (hd▸(hT t ti hs).dA) w,if_pos (And.intro h0 h1),sizeOf,typeInfo,run_program,hi,his,Addr.add_mid]
theorem aaj (h:bF c st D β w) {k:Nat} {o:au} (hk:look k st=some o) {es s n b off cap:Nat} {N:Nat×Nat} (hb:β k=some (b,N)) (h3:s+n<=N.2) (h5:cap=0\/off=s*es) (hnc:n<=cap)
  {i:Nat} (hi:i<n):i+s<o.len/\off+i*es=(i+s)*es:=by
 obtain⟨b1,N1,cs,ty,a1,a2,a3,a4,⟨a5,a5'⟩,a6,a7,a8⟩:=h.obj k o hk _ hb
 rw[hb]at a1
 simp only[ay,Prod.mk.injEq]at a1
 obtain⟨rfl,rfl⟩:=a1
 refine⟨aa,?_⟩
 rcases h5 with h5|h5
 ·omega
 ·rw[h5,Nat.add_mul,Nat.add_comm]
include hT in
theorem afF (h:bF c st D β w) (hpre:∀k o,look k pre=some o->look k st=some o) {t:TypeId} {ti ei:TI} (hs:look t T=some ti) {e:TypeId} (hd:ti.desc=.slice e) (he:look e T=some ei)
  {v:AV} {x:Value} (hv:bK (aO c st β) w β v x) {kd:IntKind} {i:Int} (h0:0<=i) {r:AV} {need:Prop} (hr:elemAt pre ei.size v i.toNat=some (r,need)) (hn:need):
  ∃y,(Instr.indexAt t x (.int kd i)).run P w=.ok y w/\bw (aO c st β) w β r y:=by
 cases v with
 |ak es n f=>
  simp only[elemAt]at hr
  split at hr
  ·rename_i hc
   simp only[ay,Prod.mk.injEq]at hr
   obtain⟨rfl,rfl⟩:=hr
   have hc':es=ei.size:=by simpa using hc
   obtain⟨base,cap,cf,rfl,h1,h2,h3,h4,h5⟩:=hv.ak
   rcases h1 with h1|⟨b,o,rfl,h1⟩
   ·omega
   ·refine⟨_,BU hT hs hd he h0 aa,.cD (.bg (h5 _ hn) ?_ .nil) rfl⟩
    rw[<-hc'];exact h1 _ hn
  ·simp at hr
 |mag N=>
  simp only[elemAt]at hr
  split at hr
  ·rename_i hc
   simp only[ay,Prod.mk.injEq]at hr
   obtain⟨rfl,rfl⟩:=hr
   have hc':ei.size=1:=by simpa using hc
   obtain⟨base,cap,rfl,h1,h2⟩:=hv.mag
   rcases h1 with h1|⟨b,o,rfl,h1⟩
   ·subst h1;simp[vJ]at hn
   ·refine⟨_,BU hT hs hd he h0 aa,.cD (.bg (.int .nil) ?_ .nil) rfl⟩
    obtain⟨cs,ty,fr,g1,g2,g3⟩:=h1
    refine⟨cs,ty,fr,g1,g2,fun j u hu=>?_⟩
    have hj:j=0:=by have:=(List.getElem?_eq_some_iff.1 hu).1;simp at this;exact this
    subst hj
    simp only[List.getElem?_cons_zero,ay]at hu
    subst hu
    have:=g3 _ _ (A5 hn)
    simpa [hc']using this
  ·simp at hr
 |own k es s n=>
  simp only[elemAt]at hr
  split at hr
  ·rename_i hc
   have hc':es=ei.size:=by simpa using hc
   cases hk:look k pre with
   |none=>rw[hk]at hr;simp at hr
   |some o=>
    rw[hk]at hr
    simp only at hr
    rcases hv.own with g|⟨_,_,hn0,_⟩
    rotate_left
    ·exfalso
     split at hr
     ·simp only[ay,Prod.mk.injEq]at hr
      obtain⟨rfl,rfl⟩:=hr
      omega
     ·simp only[ay,Prod.mk.injEq]at hr
      obtain⟨rfl,rfl⟩:=hr
      omega
    obtain⟨b,off,cap,N,rfl,g1,g2,g3,g4,g5,g6⟩:=g
    have hk':=hpre k o hk
    split at hr
    ·rename_i hc2
     simp only[ay,Prod.mk.injEq]at hr
     obtain⟨rfl,rfl⟩:=hr
     simp only[Bool.and_eq_true,beq_iff_eq,Bool.not_eq_true']at hc2
     obtain⟨q1,q2⟩:=aaj h hk' g1 g3 g5 g4 hn
     obtain⟨cs,ty,ps,e1,e2,e3,e4,e5,e6,_⟩:=h.elem hk' g1 q1
     obtain⟨b1,N1,cs1,ty1,a1,a2,a3,a4,a5,a6,a7,a8⟩:=h.obj k o hk' _ g1
     rw[g1]at a1
     simp only[ay,Prod.mk.injEq]at a1
     obtain⟨rfl,rfl⟩:=a1
     rw[hc2.1.1]at e3
     refine⟨_,BU hT hs hd he h0 aa,.cD (.bg e3 ⟨cs,ty,(0,0),e1,a7 hc2.1.2,?_⟩ .nil) rfl⟩
     rw[<-hc',q2,<-hc2.2];exact e4
    ·simp only[ay,Prod.mk.injEq]at hr
     obtain⟨rfl,rfl⟩:=hr
     refine⟨_,BU hT hs hd he h0 aa,.cD ?_ rfl⟩
     have hoff:off+i.toNat*ei.size=(i.toNat+s)*ei.size+0:=by
      rcases g5 with g5|g5
      ·omega
      ·rw[g5,hc',Nat.add_mul];omega
     rw[hoff]
     exact .ptr g1 .nil
  ·simp at hr
 |_=>simp[elemAt]at hr
end ops
end Go.Am
namespace Go.Am
open AV
section ops
variable {P:Program} {T:Types} (hT:fu P T)
variable {c:Ctx} {st pre:aC} {D D':Nat->Prop} {β:aY} {w:World}
theorem Qq (cells:Array Value) (off:Nat) (vs:List Value) (h:off+vs.length<=cells.size):
  ((vs.toArray.zipIdx).foldl (fun cs (x:Value×Nat)=>match x with|(v,j)=>cs.setIfInBounds (off+j) v) cells)=splice cells off vs:=by
 have key:∀(ws:List Value) (k:Nat) (cs:Array Value),off+k+ws.length<=cs.size->
   (ws.zipIdx k).foldl (fun cs (x:Value×Nat)=>match x with|(v,j)=>cs.setIfInBounds (off+j) v) cs=splice cs (off+k) ws:=by
  intro ws
  induction ws with
  |nil=>intro k cs hl;apply Array.ext';simp[splice]
  |cons v ws ih=>
   intro k cs hl
   simp only[List.length_cons]at hl
   rw[List.zipIdx_cons,List.foldl_cons]
   rw[ih (k+1) _ (by simp;omega)]
   apply Array.ext_getElem?
   intro i
   rw[mV (by simp;omega),mV (by simp;omega)]
   simp only[List.length_cons,Array.getElem?_setIfInBounds]
   by_cases h1:i=off+k
   ·subst h1
    rw[if_neg aa,if_pos rfl,if_pos aa,if_pos aa]
    simp
   ·by_cases h2:off+(k+1)<=i/\i<off+(k+1)+ws.length
    ·rw[if_pos h2,if_pos aa]
     have:i-(off+k)=(i-(off+(k+1)))+1:=aa
     rw[this];simp
    ·rw[if_neg h2,if_neg aa,if_neg aa]
 have:=key vs 0 cells (by simpa using h)
 simp only[Nat.add_zero]at this
 rw[<-Array.foldl_toList]
 simpa using this
theorem MF {d:TypeDesc} {i off:Nat} {t:TypeId} (h:placeOf T d i=some (off,t)):
  (∃fs f,d=.struct fs/\fs[i]?=some f/\f.offset=off/\f.type=t)\/(∃n ti,d=.array n t/\look t T=some ti/\i*ti.size=off):=by
 cases d with
 |struct fs=>
  simp only[placeOf]at h
  cases hf:fs[i]? with
  |none=>rw[hf]at h;simp at h
  |some f=>
   rw[hf]at h
   simp only[ay,Prod.mk.injEq]at h
   exact .inl ⟨fs,f,rfl,hf,h.1,h.2⟩
 |array n e=>
  simp only[placeOf]at h
  cases hf:look e T with
  |none=>rw[hf]at h;simp at h
  |some ti=>
   rw[hf]at h
   simp only[ay,Prod.mk.injEq]at h
   obtain⟨h1,rfl⟩:=h
   exact .inr ⟨n,ti,rfl,hf,h1⟩
 |_=>simp[placeOf]at h
def ve (M:Nat->Prop) (w:World) (β:aY):List (Nat×AV)->List (Nat×Value)->Prop
 |[],[]=>True
 |(i,a)::l,(j,x)::xs=>i=j/\bK M w β a x/\ve M w β l xs
 |_,_=>False
theorem KY {M:Nat->Prop} {d:TypeDesc} {place:Nat->Option (Nat×Nat)} (hp:∀i off t ti,placeOf T d i=some (off,t)->look t T=some ti->place i=some (off,ti.size)):
  ∀{ps:List (Nat×AV)} {xs:List (Nat×Value)} {l m:List AV} {cells:Array Value},tB T d l ps=some m->ve M w β ps xs->aN M w β l cells.toList->
   ∃cells',Instr.fill place cells xs=some cells'/\aN M w β m cells'.toList
 |[],[],l,m,cells,hs,_,hc=>by
  simp only[tB,ay]at hs
  subst hs
  exact⟨cells,by rw[Instr.fill.eq_1],hc⟩
 |(i,a)::ps,(j,x)::xs,l,m,cells,hs,hx,hc=>by
  obtain⟨rfl,hx,hxs⟩:=hx
  simp only[tB]at hs
  cases hpl:placeOf T d i with
  |none=>rw[hpl]at hs;simp at hs
  |some q=>
   obtain⟨off,t⟩:=q
   rw[hpl]at hs
   simp only at hs
   cases hk:jl T (.agg l) i off t with
   |none=>rw[hk]at hs;simp at hs
   |some k=>
    rw[hk]at hs
    simp only at hs
    split at hs
    ·rename_i hcond
     simp only[Bool.and_eq_true,beq_iff_eq,Bool.not_eq_true']at hcond
     obtain⟨⟨hsz,hag⟩,htup⟩:=hcond
     obtain⟨ti,pr,cc,po,ht,_,hcs,hpr,hcl,_,_,hks,h0,_,hset⟩:=BI (cs:=cells.toList) hk (by simpa using aN.agg hc .nil)
     have hx1:=hx.one htup
     have hxc:=hx1.cells
     have hxl:x.cells.toList.length=ti.size:=by rw[hxc.length];simp[sizes];omega
     have hbound:off+x.cells.toList.length<=cells.size:=by
      have:cells.toList.length=pr.length+(cc.length+po.length):=by rw[hcs];simp
      rw[Array.length_toList]at this
      omega
     have hspl:(splice cells off x.cells.toList).toList=pr++(x.cells.toList++po):=by
      simp only[splice,hcs]
      rw[hxl,<-hpr,<-hcl]
      simp
     have:=hset a _ hxc
     obtain⟨cells',hf,hr⟩:=KY hp (l:=l.set i a) (cells:=splice cells off x.cells.toList) hs hxs (by rw[hspl];simpa [AV.kids]using this)
     refine⟨cells',?_,hr⟩
     have hxs':x.cells.size=ti.size:=by rw[<-Array.length_toList,hxl]
     have hb':¬cells.size<off+x.cells.size:=by rw[<-Array.length_toList]at hbound;rw[Array.length_toList]at hbound;simp only[Array.length_toList]at hbound;omega
     rw[Instr.fill.eq_2,hp i off t ti hpl ht]
     simp only[hxs',ne_eq,not_true,decide_false,Bool.false_or,bk,gt_iff_lt]
     rw[hxs']at hb'
     rw[if_neg hb']
     have:=Qq cells off x.cells.toList hbound
     rw[Array.toArray_toList]at this
     rw[this];exact hf
    ·simp at hs
 |[],_::_,_,_,_,_,hx,_=>hx.elim
 |_::_,[],_,_,_,_,hx,_=>hx.elim
include hT in
theorem NX:∀(fs:List Field),(fs.all fun f=>(look f.type T).isSome)=true->
  ∃places:List (Nat×Nat),fs.mapM (fun f=>(P.info? f.type).map fun i=>(f.offset,i.size))=some places/\
   ∀(i:Nat) (f:Field) (ti:TI),fs[i]?=some f->look f.type T=some ti->places[i]?=some (f.offset,ti.size)
 |[],_=>⟨[],rfl,fun i f ti h _=>by simp at h⟩
 |f::fs,h=>by
  simp only[List.all_cons,Bool.and_eq_true]at h
  obtain⟨places,h1,h2⟩:=NX fs h.2
  obtain⟨ti,ht⟩:=Option.isSome_iff_exists.1 h.1
  obtain⟨inf,hi,his,_⟩:=(hT _ _ ht).info
  refine⟨(f.offset,inf.size)::places,by simp[hi,h1],fun i g tj hg hj=>?_⟩
  cases i with
  |zero=>
   simp only[List.getElem?_cons_zero,ay]at hg ⊢
   subst hg
   rw[ht]at hj
   simp only[ay]at hj
   rw[his,hj]
  |succ i=>simpa using h2 i g tj (by simpa using hg) hj
include hT in
theorem RP {M:Nat->Prop} {t:TypeId} {ti:TI} (ht:look t T=some ti) {ps:List (Nat×AV)} {xs:List (Nat×Value)} (hx:ve M w β ps xs) {m:List AV}
  (ha:ti.zero.isAgg=true) (hs:tB T ti.desc ti.zero.kids ps=some m) (hk:E9 T ti.desc=true):
  ∃y,(Instr.build t xs.toArray).run P w=.ok y w/\bw M w β (.agg m) y:=by
 have hnt:ti.zero.isTuple=false:=by cases hz:ti.zero<;>rw[hz]at ha<;>first|rfl|cases ha
 obtain⟨inf,z,hi,hz,hrep⟩:=(hT t ti ht).zero hnt
 have hzc:=((hrep M w β).cells).kids ha
 have hu:=(hT t ti ht).dA
 have hfin:∀place:Nat->Option (Nat×Nat),(∀i off t' ti',placeOf T ti.desc i=some (off,t')->look t' T=some ti'->place i=some (off,ti'.size))->
   (∀cells,Instr.fill place z.cells xs=some cells->P.built t xs=some cells)->∃y,(Instr.build t xs.toArray).run P w=.ok y w/\bw M w β (.agg m) y:=by
  intro place hp hb
  obtain⟨cells',hf,hr⟩:=KY hp hs hx hzc
  exact⟨.agg cells',run_build w t xs.toArray cells' (by simpa using hb cells' hf),by simpa using bw.Av (v:=.agg m) (by simpa using aN.agg hr .nil) rfl⟩
 cases hd:ti.desc with
 |struct fs=>
  rw[hd]at hk
  obtain⟨places,h1,h2⟩:=NX hT fs.toList hk
  refine hfin (fun i=>places.toArray[i]?) (fun i off t' ti' hp ht'=>?_) (fun cells hf=>?_)
  ·rcases MF hp with⟨fs',f,hd',hf,rfl,rfl⟩|⟨n,tj,hd',_⟩
   ·rw[hd]at hd'
    simp only[TypeDesc.struct.injEq]at hd'
    subst hd'
    simpa using h2 i f ti' (by simpa using hf) ht'
   ·rw[hd]at hd';simp at hd'
  ·unfold Program.built
   rw[hi,hu,hd]
   simp only[hz,h1]
   exact hf
 |array n e=>
  rw[hd]at hk
  obtain⟨ei,he⟩:=Option.isSome_iff_exists.1 hk
  obtain⟨ie,hie,hies,_⟩:=(hT _ _ he).info
  refine hfin (fun i=>some (i*ie.size,ie.size)) (fun i off t' ti' hp ht'=>?_) (fun cells hf=>?_)
  ·rcases MF hp with⟨fs',f,hd',_⟩|⟨n',tj,hd',hl,ho⟩
   ·rw[hd]at hd';simp at hd'
   ·rw[hd]at hd'
    simp only[TypeDesc.array.injEq]at hd'
    obtain⟨_,rfl⟩:=hd'
    rw[he]at hl ht'
    simp only[ay]at hl ht'
    subst hl;subst ht'
    rw[hies,<-ho]
  ·unfold Program.built
   rw[hi,hu,hd]
   simp only[hz,hie]
   exact hf
 |_=>rw[hd]at hk;simp[E9]at hk
theorem cH.parts {M:Nat->Prop} {ρ:Operand->Option AV} {ev:Operand->Value} (hρ:∀x v,ρ x=some v->bK M w β v (ev x)):
  ∀{ps:List (Nat×Operand)} {l:List (Nat×AV)},kj ρ ps=some l->ve M w β l (ps.map fun p=>(p.1,ev p.2))
 |[],l,h=>by simp only[kj,ay]at h;subst h;exact trivial
 |(i,x)::ps,l,h=>by
  simp only[kj]at h
  cases hx:ρ x with
  |none=>rw[hx]at h;simp at h
  |some a=>
   cases hl:kj ρ ps with
   |none=>rw[hx,hl]at h;simp at h
   |some m=>
    rw[hx,hl]at h
    simp only[ay]at h
    subst h
    exact⟨rfl,hρ x a hx,cH.parts hρ hl⟩
theorem KE {M:Nat->Prop} {es:Nat}:∀{ps:List (Nat×AV)} {xs:List (Nat×Value)} {l m:List AV} {cells:Array Value},s6 es l ps=some m->ve M w β ps xs->aN M w β l cells.toList->
   (∀a∈l,a.size=es)->∃cells',Instr.fill (fun i=>some (i*es,es)) cells xs=some cells'/\aN M w β m cells'.toList/\(∀a∈m,a.size=es)/\m.length=l.length
 |[],[],l,m,cells,hs,_,hc,hl=>by
  simp only[s6,ay]at hs
  subst hs
  exact⟨cells,by rw[Instr.fill.eq_1],hc,hl,rfl⟩
 |(i,a)::ps,(j,x)::xs,l,m,cells,hs,hx,hc,hl=>by
  obtain⟨rfl,hx,hxs⟩:=hx
  simp only[s6]at hs
  split at hs
  ·rename_i hcond
   simp only[Bool.and_eq_true,beq_iff_eq,Bool.not_eq_true',bk]at hcond
   obtain⟨⟨hsz,htup⟩,hlt⟩:=hcond
   have hx1:=hx.one htup
   have hxc:=hx1.cells
   have hxl:x.cells.toList.length=es:=by rw[hxc.length];simp[sizes];omega
   obtain⟨pr,cc,po,hcs,hpr,hcc,hset⟩:=hc.at i l[i] (by simp[hlt])
   have hccl:cc.length=es:=by rw[hcc.length];simp[sizes,hl l[i] (by simp)]
   have hsizes:∀l':List AV,(∀a∈l',a.size=es)->sizes l'=l'.length*es:=by
    intro l' hl'
    induction l' with
    |nil=>simp[sizes]
    |cons b l' ih=>simp[sizes,hl' b (by simp),ih fun a ha=>hl' a (by simp[ha]),Nat.add_mul];omega
   have hprl:pr.length=i*es:=by
    rw[hpr,hsizes _ fun a ha=>hl a (List.mem_of_mem_take ha)]
    rw[List.length_take,Nat.min_eq_left aa]
   have hbound:i*es+x.cells.toList.length<=cells.size:=by
    have:cells.toList.length=pr.length+(cc.length+po.length):=by rw[hcs];simp
    rw[Array.length_toList]at this
    omega
   have hspl:(splice cells (i*es) x.cells.toList).toList=pr++(x.cells.toList++po):=by
    simp only[splice,hcs]
    rw[hxl,<-hprl,<-hccl]
    simp
   obtain⟨cells',hf,hr,h1,h2⟩:=KE (l:=l.set i a) (cells:=splice cells (i*es) x.cells.toList) hs hxs (by rw[hspl];exact hset a _ hxc)
    (fun b hb=>by
     rcases List.mem_or_eq_of_mem_set hb with hb|hb
     ·exact hl b hb
     ·rw[hb];exact hsz)
   refine⟨cells',?_,hr,h1,by simpa using h2⟩
   have hxs':x.cells.size=es:=by rw[<-Array.length_toList,hxl]
   rw[Instr.fill.eq_2]
   have hb':¬cells.size<i*es+es:=by rw[hxl]at hbound;omega
   simp only[hxs',ne_eq,not_true,decide_false,Bool.false_or,bk,gt_iff_lt,if_neg hb']
   have:=Qq cells (i*es) x.cells.toList hbound
   rw[Array.toArray_toList]at this
   rw[this];exact hf
  ·simp at hs
 |[],_::_,_,_,_,_,hx,_,_=>hx.elim
 |_::_,[],_,_,_,_,hx,_,_=>hx.elim
theorem aN.nth {M:Nat->Prop} {es:Nat} {z:AV}:∀{l:List AV} {cs:List Value},aN M w β l cs->(∀a∈l,a.size=es)->∀i,i<l.length->
  ∃ps,ps.length=es/\aN M w β [nth l z i] ps/\∀j v,ps[j]?=some v->cs[i*es+j]?=some v
 |[],cs,h,_,i,hi=>by simp at hi
 |a::l,cs,h,hs,0,hi=>by
  obtain⟨c1,c2,rfl,h1,h2⟩:=h.split
  refine⟨c1,by rw[h1.length];simp[sizes,hs a (by simp)],by simpa [Am.nth]using h1,fun j v hv=>?_⟩
  have:=(List.getElem?_eq_some_iff.1 hv).1
  rw[Nat.zero_mul,Nat.zero_add,List.getElem?_append_left this];exact hv
 |a::l,cs,h,hs,i+1,hi=>by
  obtain⟨c1,c2,rfl,h1,h2⟩:=h.split
  obtain⟨ps,p1,p2,p3⟩:=aN.nth (z:=z) h2 (fun b hb=>hs b (by simp[hb])) i (by simpa using hi)
  refine⟨ps,p1,by simpa [Am.nth]using p2,fun j v hv=>?_⟩
  have hc1:c1.length=es:=by rw[h1.length];simp[sizes,hs a (by simp)]
  rw[Nat.add_mul,Nat.one_mul,List.getElem?_append_right aa]
  have:i*es+es+j-c1.length=i*es+j:=aa
  rw[this];exact p3 j v hv
theorem IY {z:Array Value} {m i j:Nat} (hj:j<z.size) (hi:i<m):(madeCells z (m*z.size))[i*z.size+j]?=z[j]?:=by
 have hlt:i*z.size+j<m*z.size:=by
  have:=Nat.mul_le_mul_right z.size (show i+1<=m by omega)
  rw[Nat.add_mul]at this;omega
 have hmod:(i*z.size+j)%z.size=j:=by rw[Nat.mul_comm,Nat.mul_add_mod,Nat.mod_eq_of_lt hj]
 simp[madeCells,hlt,hmod,hj]
include hT in
theorem ME (h:bF c st D β w) (hD:∀k,D k->D' k) {K:Nat} (hK:¬D K) (hDK:D' K) {t:TypeId} {ti ei:TI} (ht:look t T=some ti) {e:TypeId} (hd:ti.desc=.slice e) (he:look e T=some ei)
  (h1:ei.size≠0) (h2:ei.zero.size=ei.size) (h3:ei.zero.isTuple=false) {n m:Int} (n0:0<=n) (nm:n<=m) (m1:m<=2^47) (m2:m*ei.bytes<=2^47):
  ∃x w',(Instr.makeSlice t (.int .i64 n) (.int .i64 m)).run P w=.ok x w'/\
   fo c st D' β w [(K,some ⟨true,true,ei.size,n.toNat,fun _=>ei.zero⟩)] (.own K ei.size 0 n.toNat) x w'/\∃base,x=.slice base n.toNat m.toNat:=by
 obtain⟨i,z,hi,hz,hrep⟩:=(hT e ei he).zero h3
 obtain⟨i',hi',his,hib⟩:=(hT e ei he).info
 rw[hi]at hi'
 simp only[ay]at hi'
 subst hi'
 have hc:=(hrep (aO c st β) w bG).cells
 have hl:z.cells.size=ei.size:=by rw[<-Array.length_toList,hc.length];simp[sizes,h2]
 have hrun:=run_make (P:=P) w t e i z (hd▸(hT t ti ht).dA) hi hz .i64 .i64 n m n0 nm (by rw[hib,Int.mul_comm];omega) aa
 rw[his,<-hl]at hrun
 refine⟨_,_,hrun,⟨β.set K (w.heap.size,m.toNat,n.toNat),?_⟩,_,rfl⟩
 obtain⟨q1,q2⟩:=h.alloc (D':=D') (o:=⟨true,true,ei.size,n.toNat,fun _=>ei.zero⟩) hK hD hDK rfl (cs:=madeCells z.cells (m.toNat*z.cells.size)) (ty:=e) (N:=m.toNat) (by simp[size_madeCells,hl]) (by simp;omega) (by simp;omega)
  (fun j hj=>⟨z.cells.toList,by simp[hl],by simpa using hc,fun k v hv=>by
   have hk:k<z.cells.size:=by simpa using(List.getElem?_eq_some_iff.1 hv).1
   simp only[<-hl]
   rw[IY hk (by simp only at hj;omega)]
   simpa using hv⟩)
 refine⟨q1,q2,bw.bT (.cD ?_ rfl)⟩
 exact aN.own (N:=(m.toNat,n.toNat)) (aY.gr _ _ _) ⟨by simp,by simp⟩ aa (.inr (by simp)) aa .nil
end ops
end Go.Am
namespace Go.Am
open AV
section ops
variable {P:Program} {T:Types} (hT:fu P T)
variable {c:Ctx} {st pre:aC} {D D':Nat->Prop} {β:aY} {w:World}
mutual
theorem Zx {pre:aC}:∀{v u:AV},dj pre v=some u->u.size=v.size
 |.bool _,u,h|.int _ _,u,h|.rat _ _,u,h|.mag _,u,h|.ak _ _ _,u,h|.eR _ _ _ _,u,h|.nil,u,h|.void,u,h|.str _,u,h|.bg _,u,h=>by
  simp only[dj,ay]at h;subst h;rfl
 |.ptr _ _ _ _ _,u,h|.tuple _,u,h=>by simp[dj]at h
 |.bO c v,u,h=>by
  simp only[dj]at h
  cases hl:dj pre v with
  |none=>rw[hl]at h;simp at h
  |some m=>rw[hl]at h;simp only[ay]at h;subst h;rfl
 |.func _ l,u,h=>by
  simp only[dj]at h
  cases hl:fA pre l with
  |none=>rw[hl]at h;simp at h
  |some m=>
   rw[hl]at h
   simp only at h
   split at h
   ·simp only[ay]at h;subst h;rfl
   ·simp at h
 |.own k es s n,u,h=>by
  simp only[dj]at h
  cases hl:look k pre with
  |none=>rw[hl]at h;simp at h
  |some o=>
   rw[hl]at h
   simp only at h
   split at h
   ·simp only[ay]at h;subst h;rfl
   ·simp at h
 |.agg l,u,h=>by
  simp only[dj]at h
  cases hl:fA pre l with
  |none=>rw[hl]at h;simp at h
  |some m=>
   rw[hl]at h
   simp only[ay]at h;subst h
   simp only[size]
   exact(DW hl).1
theorem DW {pre:aC}:∀{l m:List AV},fA pre l=some m->sizes m=sizes l/\m.length=l.length/\∀es,(∀a∈l,a.size=es)->∀a∈m,a.size=es
 |[],m,h=>by simp only[fA,ay]at h;subst h;simp
 |a::l,m,h=>by
  simp only[fA]at h
  cases ha:dj pre a with
  |none=>rw[ha]at h;simp at h
  |some b=>
   cases hl:fA pre l with
   |none=>rw[ha,hl]at h;simp at h
   |some m'=>
    rw[ha,hl]at h
    simp only[ay]at h
    subst h
    obtain⟨h1,h2,h3⟩:=DW hl
    have h4:=Zx ha
    refine⟨by simp[sizes,h1,h4],by simp[h2],fun es hes x hx=>?_⟩
    rcases List.mem_cons.1 hx with rfl|hx
    ·rw[h4];exact hes a (by simp)
    ·exact h3 es (fun y hy=>hes y (by simp[hy])) x hx
end
theorem Za (z:Array Value) (n:Nat):(madeCells z ((n+1)*z.size)).toList=z.toList++(madeCells z (n*z.size)).toList:=by
 apply List.ext_getElem?
 intro i
 by_cases hz:z.size=0
 ·have h2:z.toList=[]:=by rw[<-Array.length_toList]at hz;exact List.length_eq_zero_iff.1 hz
  simp[madeCells,hz,Array.range_zero',h2]
 by_cases hi:i<z.size
 ·rw[List.getElem?_append_left (by simpa using hi)]
  have:=IY (z:=z) (m:=n+1) (i:=0) hi aa
  simpa using this
 ·rw[List.getElem?_append_right (by simpa using hi)]
  simp only[Array.length_toList,Array.getElem?_toList]
  simp only[madeCells,Array.getElem?_map]
  by_cases h2:i<(n+1)*z.size
  ·have h3:i-z.size<n*z.size:=by rw[Nat.add_mul]at h2;omega
   have h4:(i-z.size)%z.size=i%z.size:=by
    have:i=(i-z.size)+z.size:=aa
    rw[this,Nat.add_mod_right];congr 1;omega
   simp[h2,h3,h4]
  ·have h3:¬i-z.size<n*z.size:=by rw[Nat.add_mul]at h2;omega
   simp[h2,h3]
theorem Ky {M:Nat->Prop} {a:AV} {z:Array Value} (h:aN M w β [a] z.toList):∀n:Nat,aN M w β (List.replicate n a) (madeCells z (n*z.size)).toList
 |0=>by simpa [madeCells,Array.range_zero']using aN.nil
 |n+1=>by
  rw[Za,List.replicate_succ]
  exact h.cons (Ky h n)
include hT in
theorem Zl (h:bF c st D β w) (hpre:∀k o,look k pre=some o->look k st=some o) (hD:∀k,D k->D' k) {K:Nat} (hK:¬D K) (hDK:D' K) {t:TypeId} {ti ei:TI} (ht:look t T=some ti) {e:TypeId}
  (hd:ti.desc=.slice e) (he:look e T=some ei) (h1:ei.size≠0) (h2:ei.zero.size=ei.size) (h3:ei.zero.isTuple=false) {n:Nat} {ps:List (Nat×AV)} {xs:List (Nat×Value)}
  (hx:ve (aO c st β) w β ps xs) {m m':List AV} (hs:s6 ei.size (List.replicate n ei.zero) ps=some m) (hf:fA pre m=some m') (hn:n*ei.size<=2^24):
  ∃x w',(Instr.buildSlice t n xs.toArray).run P w=.ok x w'/\fo c st D' β w [(K,some ⟨true,true,ei.size,n,nth m' ei.zero⟩)] (.own K ei.size 0 n) x w':=by
 obtain⟨i,z,hi,hz,hrep⟩:=(hT e ei he).zero h3
 obtain⟨i',hi',his,hib⟩:=(hT e ei he).info
 rw[hi]at hi'
 simp only[ay]at hi'
 subst hi'
 have hc:=(hrep (aO c st β) w β).cells
 have hl:z.cells.size=ei.size:=by rw[<-Array.length_toList,hc.length];simp[sizes,h2]
 obtain⟨cells,g1,g2,g3,g4⟩:=KE (es:=ei.size) hs hx (cells:=madeCells z.cells (n*z.cells.size)) (Ky hc n) (fun a ha=>by rw[(List.mem_replicate.1 ha).2,h2])
 have g2':=AB h hpre hf g2
 obtain⟨f1,f2,f3⟩:=DW hf
 have g3':=f3 ei.size g3
 have hlen:m'.length=n:=by rw[f2,g4];simp
 have hcl:cells.size=n*ei.size:=by
  rw[<-Array.length_toList,g2'.length]
  have:∀l':List AV,(∀a∈l',a.size=ei.size)->sizes l'=l'.length*ei.size:=by
   intro l' hl'
   induction l' with
   |nil=>simp[sizes]
   |cons b l' ih=>simp[sizes,hl' b (by simp),ih fun a ha=>hl' a (by simp[ha]),Nat.add_mul];omega
  rw[this _ g3',hlen]
 have hrun:(Instr.buildSlice t n xs.toArray).run P w=.ok (.slice (some ⟨w.heap.size,0,none⟩) n n) (w.alloc (.cells cells e)):=by
  have hbig:¬2^24<n*i.size:=by rw[his];omega
  rw[his,<-hl]at hbig
  rw[<-hl]at g1
  by_cases h0:n*z.cells.size=0
  ·have:madeCells z.cells (n*z.cells.size)=#[]:=by rw[h0];simp[madeCells,Array.range_zero']
   rw[this]at g1
   simp[Instr.buildSlice,run_underlying (hd▸(hT t ti ht).dA),sizeOf,typeInfo,hi,his,<-hl,h0,newRow,Array.range_zero',g1]
  ·have hb2:¬16777216<n*z.cells.size:=aa
   have g1':Instr.fill (fun i=>some (i*z.cells.size,z.cells.size)) (Array.map (fun x=>z.cells[x%z.cells.size]!) (Array.range (n*z.cells.size))) xs=some cells:=g1
   simp[Instr.buildSlice,run_underlying (hd▸(hT t ti ht).dA),sizeOf,typeInfo,zeroValue,hi,hz,his,<-hl,h0,hb2,newRow,g1']
 refine⟨_,_,hrun,β.set K (w.heap.size,n,n),?_⟩
 obtain⟨q1,q2⟩:=h.alloc (D':=D') (o:=⟨true,true,ei.size,n,nth m' ei.zero⟩) hK hD hDK rfl (cs:=cells) (ty:=e) (N:=n) (by simp[hcl]) (by simp;omega) (by simp)
  (fun j hj=>by
   obtain⟨ps',p1,p2,p3⟩:=g2'.nth (z:=ei.zero) g3' j (by simp only at hj;omega)
   exact⟨ps',p1,p2,fun k v hv=>by simpa using p3 k v hv⟩)
 refine⟨q1,q2,bw.bT (.cD ?_ rfl)⟩
 exact aN.own (N:=(n,n)) (aY.gr _ _ _) ⟨by simp,by simp⟩ aa (.inr (by simp)) aa .nil
theorem ji {M:Nat->Prop} {ρ:Operand->Option AV} {ev:Operand->Value} (hρ:∀x v,ρ x=some v->bK M w β v (ev x)) {d:Int} {x:Option Operand} {n:Int} (h:cI ρ d x=some n):
  (x=none/\n=d)\/∃k o,x=some o/\ev o=.int k n:=by
 cases x with
 |none=>simp only[cI,ay]at h;exact .inl ⟨rfl,h.symm⟩
 |some o=>
  simp only[cI]at h
  split at h
  ·rename_i k m ho
   simp only[ay]at h
   subst h
   exact .inr ⟨k,o,rfl,(hρ _ _ ho).int⟩
  ·simp at h
theorem jg (k:IntKind) (i:Int) (y:Nat) (code:BoundsCode) (h0:0<=i) (h1:i<=y):(Instr.sliceBound (.int k i) y code).run P w=.ok i.toNat w:=by
 simp[Instr.sliceBound,asIntOf,if_pos (And.intro h0 h1)]
theorem adn {M:Nat->Prop} {ρ:Operand->Option AV} {ev:Operand->Value} (hρ:∀x v,ρ x=some v->bK M w β v (ev x)) {lo hi mx:Option Operand} {l h m:Int} {n cap:Nat}
  (hl:cI ρ 0 lo=some l) (hh:cI ρ n hi=some h) (hm:cI ρ h mx=some m) (h0:0<=l) (h1:l<=h) (h2:h<=m) (h3:m<=n) (h4:n<=cap) (hmx:mx.isSome=true->hi.isSome=true):
  ∃m':Nat,(Instr.sliceBounds true n cap (lo.map ev) (hi.map ev) (mx.map ev)).run P w=.ok (l.toNat,h.toNat,m') w/\h.toNat<=m'/\m'<=cap:=by
 rcases ji hρ hm with⟨rfl,rfl⟩|⟨km,om,rfl,hom⟩
 ·refine⟨cap,?_,aa,bz⟩
  rcases ji hρ hh with⟨rfl,rfl⟩|⟨kh,oh,rfl,hoh⟩
  ·rcases ji hρ hl with⟨rfl,rfl⟩|⟨kl,ol,rfl,hol⟩
   ·simp[Instr.sliceBounds]
   ·simp[Instr.sliceBounds,hol,jg kl l n .sliceB h0 h1]
  ·have b2:=jg (P:=P) (w:=w) kh m cap .sliceAcap aa aa
   rcases ji hρ hl with⟨rfl,rfl⟩|⟨kl,ol,rfl,hol⟩
   ·simp[Instr.sliceBounds,hoh,b2]
   ·simp[Instr.sliceBounds,hol,hoh,b2,jg kl l m.toNat .sliceB h0 aa]
 ·refine⟨m.toNat,?_,aa,aa⟩
  have b1:=jg (P:=P) (w:=w) km m cap .slice3Acap aa aa
  rcases ji hρ hh with⟨rfl,rfl⟩|⟨kh,oh,rfl,hoh⟩
  ·simp at hmx
  ·have b2:=jg (P:=P) (w:=w) kh h m.toNat .slice3B aa aa
   rcases ji hρ hl with⟨rfl,rfl⟩|⟨kl,ol,rfl,hol⟩
   ·simp[Instr.sliceBounds,hom,hoh,b1,b2]
   ·simp[Instr.sliceBounds,hom,hol,hoh,b1,b2,jg kl l h.toNat .slice3C h0 aa]
include hT in
theorem yJ {t:TypeId} {ti ei:TI} (ht:look t T=some ti) {e:TypeId} (hd:ti.desc=.slice e) (he:look e T=some ei) {base:Option Addr} {n cap:Nat} {lo hi mx:Option Value} {l h m:Nat}
  (hb:(Instr.sliceBounds true n cap lo hi mx).run P w=.ok (l,h,m) w):
  (Instr.sliceAt t (.slice base n cap) lo hi mx).run P w=.ok (.slice (if m=l then base else base.map (·.add (l*ei.size))) (h-l) (m-l)) w:=by
 obtain⟨inf,hi',his,_⟩:=(hT e ei he).info
 have hu:=hd▸(hT t ti ht).dA
 simp only[Instr.sliceAt,Sem.run_bind,run_underlying hu w,Result.andThen_ok,Instr.slice,hb,sizeOf,typeInfo,run_program,hi',his,Sem.run_pure]
theorem pN (h:bF c st D β w) (hpre:∀k o,look k pre=some o->look k st=some o) {es:Nat} (h0:0<es) {y:AV} {x:Value} (hy:bK (aO c st β) w β y x) {m:Nat} {g:Nat->AV}
  (hr:readAll pre es y=some (m,g)):∃base cap,∃cf:Nat->List Value,x=.slice base m cap/\(m=0\/∃b o,base=some ⟨b,o,none⟩/\∀i,i<m->w.rangeAt b (o+i*es) (cf i))/\m<=cap/\
   (base=none->m=0)/\∀i,i<m->(cf i).length=es/\aN (aO c st β) w bG [g i] (cf i):=by
 cases y with
 |ak e n f=>
  simp only[readAll]at hr
  split at hr
  ·rename_i hc
   simp only[ay,Prod.mk.injEq]at hr
   obtain⟨rfl,rfl⟩:=hr
   have hc':e=es:=by simpa using hc
   subst hc'
   obtain⟨base,cap,cf,rfl,g1,g2,g3,g4,g5⟩:=hy.ak
   refine⟨base,cap,cf,rfl,?_,g3,?_,fun i hi=>⟨g4 i hi,g5 i hi⟩⟩
   ·rcases g1 with g1|⟨b,o,rfl,g1⟩
    ·exact .inl g1
    ·exact .inr ⟨b,o,rfl,fun i hi=>(g1 i hi).range⟩
   ·rintro rfl
    rcases g1 with g1|⟨b,o,hb,g1⟩
    ·exact g1
    ·simp at hb
  ·simp at hr
 |mag N=>
  simp only[readAll]at hr
  split at hr
  ·rename_i hc
   simp only[ay,Prod.mk.injEq]at hr
   obtain⟨rfl,rfl⟩:=hr
   have hc':es=1:=by simpa using hc
   subst hc'
   obtain⟨base,cap,rfl,g1,g2⟩:=hy.mag
   refine⟨base,cap,fun i=>[.int .u32 (aD N i)],rfl,?_,g2,?_,fun i hi=>⟨rfl,.int .nil⟩⟩
   ·rcases g1 with g1|⟨b,o,rfl,g1⟩
    ·left;rw[g1,vJ]
    ·refine .inr ⟨b,o,rfl,fun i hi j v hv=>?_⟩
     have hj:j=0:=by have:=(List.getElem?_eq_some_iff.1 hv).1;simp at this;exact this
     subst hj
     simp only[List.getElem?_cons_zero,ay]at hv
     subst hv
     have:=g1.range i _ (A5 hi)
     simpa using this
   ·rintro rfl
    rcases g1 with g1|⟨b,o,hb,g1⟩
    ·rw[g1,vJ]
    ·simp at hb
  ·simp at hr
 |nil=>
  simp only[readAll,ay,Prod.mk.injEq]at hr
  obtain⟨rfl,rfl⟩:=hr
  have:=hy.nil
  subst this
  exact⟨none,0,fun _=>[],rfl,.inl rfl,bz,fun _=>rfl,fun i hi=>aa⟩
 |own k e s n=>
  simp only[readAll]at hr
  split at hr
  ·rename_i hc
   have hc':e=es:=by simpa using hc
   cases hk:look k pre with
   |none=>rw[hk]at hr;simp at hr
   |some o=>
    rw[hk]at hr
    simp only at hr
    split at hr
    ·rename_i hc2
     simp only[ay,Prod.mk.injEq]at hr
     obtain⟨rfl,rfl⟩:=hr
     simp only[Bool.and_eq_true,beq_iff_eq]at hc2
     rcases hy.own with g|⟨rfl,_,rfl,_⟩
     rotate_left
     ·exact⟨none,0,fun _=>[],rfl,.inl rfl,bz,fun _=>rfl,fun i hi=>aa⟩
     obtain⟨b,off,cap,N,rfl,g1,g2,g3,g4,g5,g6⟩:=g
     have hk':=hpre k o hk
     obtain⟨b1,N1,cs1,ty1,a1,a2,a3,a4,⟨a5,a5'⟩,a6,a7,a8⟩:=h.obj k o hk' _ g1
     rw[g1]at a1
     simp only[ay,Prod.mk.injEq]at a1
     obtain⟨rfl,rfl⟩:=a1
     have hcf:∀i,∃ps:List Value,i<n->ps.length=es/\aN (aO c st β) w bG [o.f (i+s)] ps/\∀j v,ps[j]?=some v->cs1[(i+s)*o.es+j]?=some v:=fun i=>by
      by_cases hi:i<n
      ·obtain⟨ps,p1,p2,p3⟩:=a8 (i+s) aa
       rw[hc2.1]at p2
       exact⟨ps,fun _=>⟨aa,p2,p3⟩⟩
      ·exact⟨[],fun h=>absurd h hi⟩
     refine⟨_,cap,fun i=>Classical.choose (hcf i),rfl,?_,g4,by simp,fun i hi=>⟨(Classical.choose_spec (hcf i) hi).1,(Classical.choose_spec (hcf i) hi).2.1⟩⟩
     by_cases hn:n=0
     ·exact .inl hn
     ·refine .inr ⟨b,off,rfl,fun i hi j v hv=>?_⟩
      have:=(Classical.choose_spec (hcf i) hi).2.2 j v hv
      rw[Bf a2]
      have ho:off+i*es=(i+s)*o.es:=by
       rcases g5 with g5|g5
       ·omega
       ·rw[g5,hc2.2,hc',Nat.add_mul];omega
      rw[ho];exact this
    ·simp at hr
  ·simp at hr
 |_=>simp[readAll]at hr
def flat (cf:Nat->List Value) (m:Nat):List Value:=(List.range m).flatMap cf
theorem s5 (cf:Nat->List Value) (m:Nat):flat cf (m+1)=flat cf m++cf m:=by simp[flat,List.range_succ]
theorem mK {cf:Nat->List Value} {es:Nat}:∀{m:Nat},(∀i,i<m->(cf i).length=es)->(flat cf m).length=m*es
 |0,_=>by simp[flat]
 |m+1,h=>by rw[s5,List.length_append,mK fun i hi=>h i aa,h m aa,Nat.add_mul,Nat.one_mul]
theorem pD {cf:Nat->List Value} {es:Nat}:∀{m:Nat},(∀i,i<m->(cf i).length=es)->∀{i j:Nat},i<m->j<es->(flat cf m)[i*es+j]?=(cf i)[j]?
 |0,_,i,j,hi,_=>aa
 |m+1,h,i,j,hi,hj=>by
  have hl:=mK (cf:=cf) (es:=es) (m:=m) fun i hi=>h i aa
  rw[s5]
  by_cases him:i<m
  ·have:=Nat.mul_le_mul_right es (show i+1<=m by omega)
   rw[Nat.add_mul,Nat.one_mul]at this
   rw[List.getElem?_append_left aa]
   exact pD (fun i hi=>h i aa) him hj
  ·have:i=m:=aa
   subst this
   rw[List.getElem?_append_right aa,hl]
   congr 1;omega
theorem ahJ {cf:Nat->List Value} {es m:Nat} (h0:0<es) (h:∀i,i<m->(cf i).length=es) {k:Nat} {v:Value} (hv:(flat cf m)[k]?=some v):
  k/es<m/\(cf (k/es))[k%es]?=some v:=by
 have hk:=(List.getElem?_eq_some_iff.1 hv).1
 rw[mK h]at hk
 have h1:k/es<m:=(Nat.div_lt_iff_lt_mul h0).2 hk
 refine⟨h1,?_⟩
 rw[<-pD h h1 (Nat.mod_lt _ h0)]
 have:k/es*es+k%es=k:=by rw[Nat.mul_comm];exact Nat.div_add_mod k es
 rw[this];exact hv
theorem yV {M:Nat->Prop} {cf:Nat->List Value} {g:Nat->AV} {m:Nat} (h:∀i,i<m->aN M w β [g i] (cf i)):∀v∈flat cf m,v.oneCell'=true:=by
 intro v hv
 obtain⟨i,hi,hv⟩:=List.mem_flatMap.1 hv
 exact(h i (by simpa using hi)).Hx v hv
end ops
end Go.Am
namespace Go.Am
open AV
section ops
variable {P:Program} {T:Types} (hT:fu P T)
variable {c:Ctx} {st pre:aC} {D D':Nat->Prop} {β:aY} {w:World}
theorem r9 {es m cap:Nat} {base:Option Addr} {cf:Nat->List Value} (h0:0<es) (hl:∀i,i<m->(cf i).length=es)
  (hm:m=0\/∃b o,base=some ⟨b,o,none⟩/\∀i,i<m->w.rangeAt b (o+i*es) (cf i)) (l:Nat):(Builtin.firstCells es m (.slice base l cap)).run P w=.ok (flat cf m).toArray w:=by
 cases base with
 |none=>
  rcases hm with rfl|⟨b,o,hb,_⟩
  ·simp[Builtin.firstCells,flat]
  ·simp at hb
 |some a=>
  refine run_firstCells_some w es m a l cap _ (mK hl) fun j v hv=>?_
  obtain⟨h1,h2⟩:=ahJ h0 hl hv
  rcases hm with rfl|⟨b,o,hb,hr⟩
  ·simp[flat]at hv
  ·simp only[ay]at hb
   subst hb
   have:=hr _ h1 _ _ h2
   rw[Addr.add_mid]
   have hj:o+j=o+j/es*es+j%es:=by
    have:j/es*es+j%es=j:=by rw[Nat.mul_comm];exact Nat.div_add_mod j es
    omega
   rw[hj];exact this
include hT in
theorem yE {t:TypeId} {ti:TI} (ht:look t T=some ti) {e:TypeId} (hd:ti.desc=.slice e) {es:Nat} {m cap:Nat} {base:Option Addr} {cf:Nat->List Value} {g:Nat->AV} {M:Nat->Prop} (h0:0<es)
  (hm:m=0\/∃b o,base=some ⟨b,o,none⟩/\∀i,i<m->w.rangeAt b (o+i*es) (cf i)) (hc:∀i,i<m->(cf i).length=es/\aN M w bG [g i] (cf i)):
  Src P es t (.slice base m cap) m (flat cf m) w:=
 ⟨.inl ⟨e,hd▸(hT t ti ht).dA⟩,fun _=>rfl,r9 h0 (fun i hi=>(hc i hi).1) hm m,r9 (w:=w.drew) h0 (fun i hi=>(hc i hi).1) (hm.imp id fun⟨b,o,h1,h2⟩=>⟨b,o,h1,fun i hi=>h2 i hi⟩) m,
  mK fun i hi=>(hc i hi).1,yV fun i hi=>(hc i hi).2⟩
theorem v7 (z:Array Value) (n:Nat):(Builtin.zeroCells z n).size=n*z.size:=by simp[Builtin.zeroCells]
theorem bF.elems (h:bF c st D β w) {k:Nat} {o:au} (hk:look k st=some o) (hr:o.row=true) {b:Nat} {N:Nat×Nat} (hb:β k=some (b,N)):
  ∃cs ty,∃cf:Nat->List Value,w.heap[b]?=some (.cells cs ty (0,0))/\cs.size=N.1*o.es/\0<o.es/\o.len=N.2/\o.len<=N.1/\
   ∀i,i<o.len->(cf i).length=o.es/\aN (aO c st β) w bG [o.f i] (cf i)/\∀j v,(cf i)[j]?=some v->cs[i*o.es+j]?=some v:=by
 obtain⟨b1,N1,cs1,ty1,a1,a2,a3,a4,⟨a5,a5'⟩,a6,a7,a8⟩:=h.obj k o hk _ hb
 rw[hb]at a1
 simp only[ay,Prod.mk.injEq]at a1
 obtain⟨rfl,rfl⟩:=a1
 have hcf:∀i,∃ps:List Value,i<o.len->ps.length=o.es/\aN (aO c st β) w bG [o.f i] ps/\∀j v,ps[j]?=some v->cs1[i*o.es+j]?=some v:=fun i=>by
  by_cases hi:i<o.len
  ·obtain⟨ps,p1,p2,p3⟩:=a8 i hi
   rw[hr]at p2
   exact⟨ps,fun _=>⟨p1,p2,p3⟩⟩
  ·exact⟨[],fun h=>absurd h hi⟩
 exact⟨cs1,ty1,fun i=>Classical.choose (hcf i),a2,a3,a4,a5,a5',fun i hi=>Classical.choose_spec (hcf i) hi⟩
theorem O5 {cf cg:Nat->List Value}:∀{m:Nat},(∀i,i<m->cf i=cg i)->flat cf m=flat cg m
 |0,_=>rfl
 |m+1,h=>by rw[s5,s5,O5 fun i hi=>h i aa,h m aa]
theorem FH (cf cg:Nat->List Value) (n m:Nat):flat cf n++flat cg m=flat (fun i=>if i<n then cf i else cg (i-n)) (n+m):=by
 induction m with
 |zero=>
  rw[show flat cg 0=[]from rfl,List.append_nil,Nat.add_zero]
  exact O5 fun i hi=>by rw[if_pos hi]
 |succ m ih=>
  rw[s5,<-List.append_assoc,ih,<-Nat.add_assoc,s5]
  congr 1
  rw[if_neg aa]
  congr 1;omega
theorem bF.vU (h:bF c st D β w) {K:Nat} (hK:¬D K) (hD:∀k,D k->D' k) (hDK:D' K) {es len C:Nat} {f:Nat->AV} {cf:Nat->List Value} (h0:0<es) (hlen:len<=C)
  (hcf:∀i,i<len->(cf i).length=es/\aN (aO c st β) w bG [f i] (cf i)) {Z:Array Value} (hZ:Z.size=(C-len)*es) {ty:TypeId}:
  bF c (put K ⟨true,true,es,len,f⟩ st) D' (β.set K (w.heap.size,C,len)) (w.alloc (.cells ((flat cf len).toArray++Z) ty))/\
   cV (aO c st β) w β (aO c (put K ⟨true,true,es,len,f⟩ st) (β.set K (w.heap.size,C,len))) (w.alloc (.cells ((flat cf len).toArray++Z) ty)) (β.set K (w.heap.size,C,len)):=by
 have hfl:=mK (cf:=cf) (m:=len) (es:=es) fun i hi=>(hcf i hi).1
 refine h.alloc (D':=D') (o:=⟨true,true,es,len,f⟩) hK hD hDK rfl (N:=C) ?_ h0 hlen (fun i hi=>⟨cf i,(hcf i hi).1,(hcf i hi).2,fun j v hv=>?_⟩)
 ·simp only[Array.size_append,List.size_toArray,hfl,hZ]
  rw[<-Nat.add_mul];congr 1;omega
 ·have hj:=(List.getElem?_eq_some_iff.1 hv).1
  rw[(hcf i hi).1]at hj
  have:=pD (cf:=cf) (m:=len) (es:=es) (fun i hi=>(hcf i hi).1) hi hj
  have hlt:i*es+j<(flat cf len).length:=by
   have:=Nat.mul_le_mul_right es (show i+1<=len from hi)
   rw[Nat.add_mul,Nat.one_mul]at this
   rw[hfl];omega
  rw[Array.getElem?_append_left (by simpa using hlt)]
  simpa [this]using hv
include hT in
theorem Y4 (h:bF c st D β w) (hpre:∀k o,look k pre=some o->look k st=some o) (hD:∀k,D k->D' k) {K:Nat} (hK:¬D K) (hDK:D' K) {t t' ty:TypeId} {ti ti' ei:TI}
  (ht:look t T=some ti) (ht':look t' T=some ti') {e e':TypeId} (hd:ti.desc=.slice e) (hd':ti'.desc=.slice e') (he:look e T=some ei) (h1:ei.size≠0) (h2:ei.zero.size=ei.size)
  (h3:ei.zero.isTuple=false)
  {y:AV} {x:Value} (hy:bK (aO c st β) w β y x) {m:Nat} {g:Nat->AV} (hr:readAll pre ei.size y=some (m,g)) (n0:0<m) (n1:m*(ei.bytes+1)*2<=2^47):
  ∃z w',(Builtin.append_ #[t,t'] ty #[.slice none 0 0,x]).run P w=.ok z w'/\fo c st D' β w [(K,some ⟨true,true,ei.size,m,g⟩)] (.own K ei.size 0 m) z w':=by
 obtain⟨i,zz,hi,hz,hrep⟩:=(hT e ei he).zero h3
 obtain⟨i',hi',his,hib⟩:=(hT e ei he).info
 rw[hi]at hi'
 simp only[ay]at hi'
 subst hi'
 have hzl:zz.cells.size=ei.size:=by rw[<-Array.length_toList,(hrep (aO c st β) w β).cells.length];simp[sizes,h2]
 obtain⟨base,cap,cf,rfl,g1,g2,g3,g4⟩:=pN h hpre aa hy hr
 have hsrc:=yE hT ht' hd' (cap:=cap) aa g1 g4
 rw[<-his]at hsrc
 have hmb:m*ei.bytes<=2^47:=Nat.le_trans (by rw[Nat.mul_assoc];exact Nat.mul_le_mul_left m aa) n1
 have hm2:m*2<=2^47:=Nat.le_trans (by rw[Nat.mul_assoc];exact Nat.mul_le_mul_left m aa) n1
 have hrun:=run_append_grow_src (P:=P) w t t' ty e i zz (hd▸(hT t ti ht).dA) hi hz none 0 0 [] (by simp[Builtin.firstCells]) (.slice base m cap) m (flat cf m) hsrc aa aa
  (growslice_fits aa (by rw[hib,Nat.zero_add];omega))
 rw[Nat.zero_add,List.nil_append]at hrun
 have hcap:m<=grownCap w m 0 e:=by simp[grownCap,Question.cut]
 generalize grownCap w m 0 e=C at hrun hcap
 refine⟨_,_,hrun,β.set K (w.heap.size,C,m),?_⟩
 have e1:cV (aO c st β) w β (aO c st β) w.drew β:=cV.drew
 obtain⟨q1,q2⟩:=h.drew.vU (D':=D') (es:=ei.size) (f:=g) (cf:=cf) hK hD hDK aa hcap (fun i hi=>⟨(g4 i hi).1,(g4 i hi).2.pz e1⟩) (Z:=Builtin.zeroCells zz.cells (C-m)) (by rw[v7,hzl]) (ty:=e)
 refine⟨q1,e1.trans q2,bw.bT (.cD ?_ rfl)⟩
 exact aN.own (N:=(C,m)) (aY.gr _ _ _) ⟨by simp,by simp⟩ hcap (.inr (by simp)) aa .nil
include hT in
theorem ZK (h:bF c st D β w) (hpre:∀k o,look k pre=some o->look k st=some o) (hD:∀k,D k->D' k) {K:Nat} (hK:¬D K) (hDK:D' K) {t t' ty:TypeId} {ti ti' ei:TI}
  (ht:look t T=some ti) (ht':look t' T=some ti') {e e':TypeId} (hd:ti.desc=.slice e) (hd':ti'.desc=.slice e') (he:look e T=some ei) (h1:ei.size≠0)
  (h3:ei.zero.isTuple=false)
  {y:AV} {x:Value} (hy:bK (aO c st β) w β y x) {g:Nat->AV} (hr:readAll pre ei.size y=some (0,g)):
  ∃z w',(Builtin.append_ #[t,t'] ty #[.slice none 0 0,x]).run P w=.ok z w'/\fo c st D' β w [(K,some ⟨true,true,ei.size,0,g⟩)] (.own K ei.size 0 0) z w':=by
 obtain⟨i,zz,hi,hz,hrep⟩:=(hT e ei he).zero h3
 obtain⟨i',hi',his,hib⟩:=(hT e ei he).info
 rw[hi]at hi'
 simp only[ay]at hi'
 subst hi'
 obtain⟨base,cap,cf,rfl,g1,g2,g3,g4⟩:=pN h hpre aa hy hr
 have hsrc0:=yE hT ht' hd' (cap:=cap) aa g1 g4
 have hu:=hd▸(hT t ti ht).dA
 have hcells:=hsrc0.cells
 have hf:(flat cf 0).toArray=#[]:=by simp[flat]
 rw[hf]at hcells
 have hrun:(Builtin.append_ #[t,t'] ty #[.slice none 0 0,.slice base 0 cap]).run P w=.ok (.slice none 0 0) w:=by
  simp[Builtin.append_,run_underlying hu,run_underlying (hd'▸(hT t' ti' ht').dA),sizeOf,typeInfo,hi,Builtin.lenOf,his,hcells]
 obtain⟨q1,q2⟩:=h.J0 (D':=D') (K:=K) (o:=⟨true,true,ei.size,0,g⟩) hK hD hDK rfl rfl (by simp only;omega)
 exact⟨_,_,hrun,β,q1,q2,bw.bT (.cD (.own0 aa .nil) rfl)⟩
include hT in
theorem KP (h:bF c st D β w) (hpre:∀k o,look k pre=some o->look k st=some o) (hD:∀k,D k->D' k) {K:Nat} (hK:¬D K) (hDK:D' K) {t t' ty:TypeId} {ti ti' ei:TI}
  (ht:look t T=some ti) (ht':look t' T=some ti') {e e':TypeId} (hd:ti.desc=.slice e) (hd':ti'.desc=.slice e') (he:look e T=some ei) (h1:ei.size≠0) (h2:ei.zero.size=ei.size)
  (h3:ei.zero.isTuple=false)
  {y:AV} {x:Value} (hy:bK (aO c st β) w β y x) {m:Nat} {g:Nat->AV} (hr:readAll pre ei.size y=some (m,g))
  {k n:Nat} {o:au} {s:Value} (hs:bK (aO c st β) w β (.own k ei.size 0 n) s) (hk:look k st=some o) (hrow:o.row=true) (hwr:o.wr=true) (hes:o.es=ei.size)
  (n1:(n+m)*(ei.bytes+1)*2<=2^47):
  ∃z w',(Builtin.append_ #[t,t'] ty #[s,x]).run P w=.ok z w'/\
   fo c st D' β w [(k,none),(K,some ⟨true,true,ei.size,n+m,fun i=>if i<n then o.f i else g (i-n)⟩)] (.own K ei.size 0 (n+m)) z w'/\∀base scap,s=.slice base n scap->n+m<=scap->∃base',z=.slice base' (n+m) scap:=by
 obtain⟨i,zz,hi,hz,hrep⟩:=(hT e ei he).zero h3
 obtain⟨i',hi',his,hib⟩:=(hT e ei he).info
 rw[hi]at hi'
 simp only[ay]at hi'
 subst hi'
 have hzl:zz.cells.size=ei.size:=by rw[<-Array.length_toList,(hrep (aO c st β) w β).cells.length];simp[sizes,h2]
 obtain⟨base,cap,cf,rfl,g1,g2,g3,g4⟩:=pN h hpre aa hy hr
 have hsrc:=yE hT ht' hd' (cap:=cap) aa g1 g4
 have hu:=hd▸(hT t ti ht).dA
 have hmb:(n+m)*ei.bytes<=2^47:=Nat.le_trans (by rw[Nat.mul_assoc];exact Nat.mul_le_mul_left _ aa) n1
 have hm2:(n+m)*2<=2^47:=Nat.le_trans (by rw[Nat.mul_assoc];exact Nat.mul_le_mul_left _ aa) n1
 rcases hs.own with hs|⟨rfl,_,rfl,_⟩
 rotate_left
 ·have hsrc0:=hsrc
  rw[<-his]at hsrc
  by_cases hm0:m=0
  ·subst hm0
   have hcells:=hsrc0.cells
   have hf:(flat cf 0).toArray=#[]:=by simp[flat]
   rw[hf]at hcells
   have hrun:(Builtin.append_ #[t,t'] ty #[.slice none 0 0,.slice base 0 cap]).run P w=.ok (.slice none 0 0) w:=by
    simp[Builtin.append_,run_underlying hu,run_underlying (hd'▸(hT t' ti' ht').dA),sizeOf,typeInfo,hi,Builtin.lenOf,his,hcells,storeCells]
   obtain⟨d1,d2⟩:=h.drop k
   obtain⟨q1,q2⟩:=d1.J0 (D':=D') (K:=K) (o:=⟨true,true,ei.size,0+0,fun i=>if i<0 then o.f i else g (i-0)⟩) hK hD hDK rfl rfl (by simp only;omega)
   exact⟨_,_,hrun,⟨β,q1,d2.trans q2,bw.bT (.cD (.own0 aa .nil) rfl)⟩,fun base' scap he hle=>by cases he;exact⟨none,rfl⟩⟩
  ·have hrun:=run_append_grow_src (P:=P) w t t' ty e i zz hu hi hz none 0 0 [] (by simp[Builtin.firstCells]) (.slice base m cap) m (flat cf m) hsrc aa aa
    (growslice_fits aa (by rw[hib];omega))
   rw[List.nil_append]at hrun
   have hcap:0+m<=grownCap w (0+m) 0 e:=by simp[grownCap,Question.cut]
   generalize grownCap w (0+m) 0 e=C at hrun hcap
   have f1:cV (aO c st β) w β (aO c st β) w.drew β:=cV.drew
   obtain⟨d1,d2⟩:=h.drew.drop k
   have f2:=f1.trans d2
   obtain⟨q1,q2⟩:=d1.vU (D':=D') (es:=ei.size) (len:=0+m) (f:=fun i=>if i<0 then o.f i else g (i-0)) (cf:=cf) hK hD hDK aa hcap
    (fun i hi=>⟨(g4 i aa).1,by simp only[Nat.not_lt_zero,if_false,Nat.sub_zero];exact(g4 i aa).2.pz f2⟩) (Z:=Builtin.zeroCells zz.cells (C-(0+m))) (by rw[v7,hzl]) (ty:=e)
   rw[show flat cf (0+m)=flat cf m by rw[Nat.zero_add]]at q1 q2
   refine⟨_,_,hrun,⟨β.set K (w.heap.size,C,0+m),q1,f2.trans q2,bw.bT (.cD ?_ rfl)⟩,fun base' scap he hle=>by cases he;omega⟩
   exact aN.own (N:=(C,0+m)) (aY.gr _ _ _) ⟨by simp,by simp⟩ hcap (.inr (by simp)) aa .nil
 obtain⟨b,off,scap,N,rfl,k1,k2,k3,k4,k5,k6⟩:=hs
 obtain⟨cs,cty,cfo,e1,e2,e3,e4,e5,e6⟩:=h.elems hk hrow k1
 have hold:∀i,i<n->(cfo i).length=ei.size/\aN (aO c st β) w bG [o.f i] (cfo i)/\∀j v,(cfo i)[j]?=some v->cs[i*ei.size+j]?=some v:=fun i hi=>by
  have:=e6 i aa
  rwa [hes]at this
 have hnew:∀i,i<n+m->((fun i=>if i<n then cfo i else cf (i-n)) i).length=ei.size/\
   aN (aO c st β) w bG [(fun i=>if i<n then o.f i else g (i-n)) i] ((fun i=>if i<n then cfo i else cf (i-n)) i):=fun i hi=>by
  by_cases h':i<n
  ·simp only[if_pos h'];exact⟨(hold i h').1,(hold i h').2.1⟩
  ·simp only[if_neg h'];exact g4 (i-n) aa
 by_cases hroom:n+m<=scap
 ·-- there is room
  have hrun:∃cs',(Builtin.append_ #[t,t'] ty #[.slice (some ⟨b,off,none⟩) n scap,.slice base m cap]).run P w=.ok (.slice (some ⟨b,off,none⟩) (n+m) scap) (w.setRow b cs')/\cs'.size=cs.size/\
    ∀i,i<n+m->∀j v,((fun i=>if i<n then cfo i else cf (i-n)) i)[j]?=some v->cs'[i*ei.size+j]?=some v:=by
   by_cases hm0:m=0
   ·subst hm0
    refine⟨cs,?_,rfl,fun i hi j v hv=>?_⟩
    ·rw[setRow_self w b cs cty _ e1]
     have hf:(flat cf 0).toArray=#[]:=by simp[flat]
     have hcells:=hsrc.cells
     rw[hf]at hcells
     have hn:n<=scap:=k4
     simp[Builtin.append_,run_underlying hu,run_underlying (hd'▸(hT t' ti' ht').dA),sizeOf,typeInfo,hi,Builtin.lenOf,his,hcells,hn,storeCells]
    ·have hi':i<n:=aa
     simp only[if_pos hi']at hv
     exact(hold i hi').2.2 j v hv
   ·have hoff:off=0:=by rcases k5 with k5|k5<;>omega
    subst hoff
    have hfl:=mK (cf:=cf) (m:=m) (es:=ei.size) fun i hi=>(g4 i hi).1
    have hfit:n*ei.size+m*ei.size<=cs.size:=by
     rw[e2,hes,<-Nat.add_mul];exact Nat.mul_le_mul_right _ aa
    have hst:=run_storeCells_at P b (n*ei.size) cty (flat cf m) 0 cs w e1 (by rw[hfl];simpa using hfit) (yV fun i hi=>(g4 i hi).2)
    simp only[Nat.add_zero]at hst
    refine⟨splice cs (n*ei.size) (flat cf m),?_,zw (by rw[hfl];exact hfit),fun i hi j v hv=>?_⟩
    ·have hcells:=hsrc.cells
     simp[Builtin.append_,run_underlying hu,run_underlying (hd'▸(hT t' ti' ht').dA),sizeOf,typeInfo,hi,Builtin.lenOf,his,hcells,hroom,Addr.add_lit,hst,splice]
    ·rw[mV (by rw[hfl];exact hfit),hfl]
     have hlen:=(hnew i hi).1
     have hj:j<ei.size:=by rw[<-hlen];exact(List.getElem?_eq_some_iff.1 hv).1
     by_cases h':i<n
     ·simp only[if_pos h']at hv
      have:=Nat.mul_le_mul_right ei.size (show i+1<=n by omega)
      rw[Nat.add_mul,Nat.one_mul]at this
      rw[if_neg aa]
      exact(hold i h').2.2 j v hv
     ·simp only[if_neg h']at hv
      have h5:i*ei.size=n*ei.size+(i-n)*ei.size:=by rw[<-Nat.add_mul];congr 1;omega
      have h6:=Nat.mul_le_mul_right ei.size (show(i-n)+1<=m by omega)
      rw[Nat.add_mul,Nat.one_mul]at h6
      rw[if_pos aa]
      have h7:i*ei.size+j-n*ei.size=(i-n)*ei.size+j:=aa
      rw[h7,pD (fun i hi=>(g4 i hi).1) aa hj]
      exact hv
  obtain⟨cs',hrun,hsz,hcs'⟩:=hrun
  obtain⟨q1,q2⟩:=h.extend (D':=D') (K:=K) (o':=⟨true,true,ei.size,n+m,fun i=>if i<n then o.f i else g (i-n)⟩) hk hwr hK hD hDK k1 e1 hsz hes.symm rfl (by simp only;omega)
   (fun i hi=>⟨_,(hnew i hi).1,(hnew i hi).2,hcs' i hi⟩)
  refine⟨_,_,hrun,⟨β.set K (b,N.1,n+m),q1,q2,bw.bT (.cD ?_ rfl)⟩,fun base' scap he hle=>by cases he;exact⟨_,rfl⟩⟩
  exact aN.own (N:=(N.1,n+m)) (aY.gr _ _ _) ⟨by simp only;omega,by simp⟩ hroom (k5.imp id (by simp)) aa .nil
 ·-- a new row
  rw[<-his]at hsrc
  have hfold:(Builtin.firstCells i.size n (.slice (some ⟨b,off,none⟩) n scap)).run P w.drew=.ok (flat cfo n).toArray w.drew:=by
   refine r9 (w:=w.drew) aa (fun i hi=>by rw[(hold i hi).1,his]) ?_ n
   by_cases hn:n=0
   ·exact .inl hn
   ·refine .inr ⟨b,off,rfl,fun i hi j v hv=>?_⟩
    have hoff:off=0:=by rcases k5 with k5|k5<;>omega
    rw[World.cell?_drew,Bf e1,hoff,his,Nat.zero_add]
    exact(hold i hi).2.2 j v hv
  have hrun:=run_append_grow_src (P:=P) w t t' ty e i zz hu hi hz (some ⟨b,off,none⟩) n scap (flat cfo n) hfold (.slice base m cap) m (flat cf m) hsrc aa aa
   (growslice_fits aa (by rw[hib];omega))
  rw[FH]at hrun
  have hcap:n+m<=grownCap w (n+m) scap e:=by simp[grownCap,Question.cut]
  generalize grownCap w (n+m) scap e=C at hrun hcap
  have f1:cV (aO c st β) w β (aO c st β) w.drew β:=cV.drew
  obtain⟨d1,d2⟩:=h.drew.drop k
  have f2:=f1.trans d2
  obtain⟨q1,q2⟩:=d1.vU (D':=D') (es:=ei.size) (f:=fun i=>if i<n then o.f i else g (i-n)) (cf:=fun i=>if i<n then cfo i else cf (i-n)) hK hD hDK aa hcap
   (fun i hi=>⟨(hnew i hi).1,(hnew i hi).2.pz f2⟩) (Z:=Builtin.zeroCells zz.cells (C-(n+m))) (by rw[v7,hzl]) (ty:=e)
  refine⟨_,_,hrun,⟨β.set K (w.heap.size,C,n+m),q1,f2.trans q2,bw.bT (.cD ?_ rfl)⟩,fun base' scap he hle=>by cases he;omega⟩
  exact aN.own (N:=(C,n+m)) (aY.gr _ _ _) ⟨by simp,by simp⟩ hcap (.inr (by simp)) aa .nil
include hT in
theorem ac2 (h:bF c st D β w) (hpre:∀k o,look k pre=some o->look k st=some o) (hD:∀k,D k->D' k) {t t' ty:TypeId} {ti ei:TI}
  (ht:look t T=some ti) {e:TypeId} (hd:ti.desc=.slice e) (he:look e T=some ei)
  {y:AV} {x:Value} (hy:bK (aO c st β) w β y x) {m:Nat} {g:Nat->AV} (hr:readAll pre ei.size y=some (m,g))
  {k s n:Nat} {o:au} {sv:Value} (hs:bK (aO c st β) w β (.own k ei.size s n) sv) (hk:look k st=some o) (hrow:o.row=true) (hwr:o.wr=true) (hes:o.es=ei.size):
  ∃z w',(Builtin.copy_ #[t,t'] ty #[sv,x]).run P w=.ok z w'/\
   fo c st D' β w [(k,some {o with f:=fun i=>if s<=i/\i<s+min m n then g (i-s)else o.f i})] (.int .i64 (min m n:Nat)) z w':=by
 obtain⟨i,hi,his,hib⟩:=(hT e ei he).info
 have hu:=hd▸(hT t ti ht).dA
 rcases hs.own with hs|⟨rfl,rfl,rfl,k6⟩
 rotate_left
 ·obtain⟨base,cap,cf,rfl,g1,g2,g3,g4⟩:=pN h hpre k6 hy hr
  have hcells:=r9 (P:=P) (cap:=cap) (cf:=cf) (m:=0) k6 (fun i hi=>absurd hi (Nat.not_lt_zero i)) (.inl rfl:(0:Nat)=0\/∃b o,base=some ⟨b,o,none⟩/\∀i,i<0->w.rangeAt b (o+i*ei.size) (cf i)) m
  have hf:(flat cf 0).toArray=#[]:=by simp[flat]
  rw[hf]at hcells
  have h0':m.min 0=0:=Nat.min_zero m
  have hrun:(Builtin.copy_ #[t,t'] ty #[.slice none 0 0,.slice base m cap]).run P w=.ok (goInt (min m 0:Nat)) w:=by
   rw[Nat.min_zero]
   simp[Builtin.copy_,run_underlying hu,Builtin.lenOf,sizeOf,typeInfo,hi,his,h0',hcells,storeCells]
  obtain⟨q1,q2⟩:=h.EB (o':={o with f:=fun i=>if 0<=i/\i<0+min m 0 then g (i-0)else o.f i}) hk (by
   have:(fun i=>if 0<=i/\i<0+min m 0 then g (i-0)else o.f i)=o.f:=funext fun i=>if_neg aa
   rw[this])
  exact⟨_,_,hrun,β,q1.mH hD,q2,bw.bT (.cD (.int .nil) rfl)⟩
 obtain⟨b,off,scap,N,rfl,k1,k2,k3,k4,k5,k6⟩:=hs
 obtain⟨base,cap,cf,rfl,g1,g2,g3,g4⟩:=pN h hpre k6 hy hr
 obtain⟨cs,cty,cfo,e1,e2,e3,e4,e5,e6⟩:=h.elems hk hrow k1
 have hcells:=r9 (P:=P) (cap:=cap) (cf:=cf) (m:=min m n) k6 (fun i hi=>(g4 i aa).1) (g1.elim (fun h=>.inl aa) fun⟨b,o,p,q⟩=>.inr ⟨b,o,p,fun i hi=>q i aa⟩) m
 have hfl:=mK (cf:=cf) (m:=min m n) (es:=ei.size) fun i hi=>(g4 i aa).1
 have hfit:s*ei.size+min m n*ei.size<=cs.size:=by
  rw[e2,hes,<-Nat.add_mul];exact Nat.mul_le_mul_right _ aa
 have hrun:∃cs',(Builtin.copy_ #[t,t'] ty #[.slice (some ⟨b,off,none⟩) n scap,.slice base m cap]).run P w=.ok (goInt (min m n:Nat)) (w.setRow b cs')/\cs'=splice cs (s*ei.size) (flat cf (min m n)):=by
  by_cases h0:min m n=0
  ·refine⟨cs,?_,?_⟩
   ·rw[setRow_self w b cs cty _ e1]
    rw[h0]at hcells
    have hf:(flat cf 0).toArray=#[]:=by simp[flat]
    rw[hf]at hcells
    have h0':m.min n=0:=h0
    simp[Builtin.copy_,run_underlying hu,Builtin.lenOf,sizeOf,typeInfo,hi,his,h0',hcells,storeCells]
   ·rw[h0];simp[flat,splice]
  ·have hoff:off=s*ei.size:=by rcases k5 with k5|k5<;>omega
   subst hoff
   have hst:=run_storeCells_at P b (s*ei.size) cty (flat cf (min m n)) 0 cs w e1 (by rw[hfl];simpa using hfit) (yV fun i hi=>(g4 i aa).2)
   simp only[Nat.add_zero]at hst
   refine⟨_,?_,rfl⟩
   have hmn:m.min n=min m n:=rfl
   simp[Builtin.copy_,run_underlying hu,Builtin.lenOf,sizeOf,typeInfo,hi,his,hmn,hcells,hst,splice]
 obtain⟨cs',hrun,rfl⟩:=hrun
 have hq:=h.write (o':={o with f:=fun i=>if s<=i/\i<s+min m n then g (i-s)else o.f i}) hk hwr k1 e1 (zw (by rw[hfl];exact hfit)) rfl hwr rfl (fun i hi=>?_)
 ·refine⟨_,_,hrun,β,hq.1.mH hD,hq.2,bw.bT (.cD (.int .nil) rfl)⟩
 ·have hi':i<o.len:=hi
  obtain⟨f1,f2,f3⟩:=e6 i hi'
  by_cases hin:s<=i/\i<s+min m n
  ·refine⟨cf (i-s),?_,?_,fun j v hv=>?_⟩
   ·rw[(g4 (i-s) aa).1];exact hes.symm
   ·simp only[hrow,if_true,if_pos hin]
    exact(g4 (i-s) aa).2
   ·have hj:j<ei.size:=by rw[<-(g4 (i-s) aa).1];exact(List.getElem?_eq_some_iff.1 hv).1
    have h5:i*ei.size=s*ei.size+(i-s)*ei.size:=by rw[<-Nat.add_mul];congr 1;omega
    have h6:=Nat.mul_le_mul_right ei.size (show(i-s)+1<=min m n by omega)
    rw[Nat.add_mul,Nat.one_mul]at h6
    simp only[hes]
    rw[mV (by rw[hfl];exact hfit),hfl,if_pos aa]
    have h7:i*ei.size+j-s*ei.size=(i-s)*ei.size+j:=aa
    rw[h7,pD (fun i hi=>(g4 i aa).1) aa hj]
    exact hv
  ·refine⟨cfo i,f1,?_,fun j v hv=>?_⟩
   ·simp only[hrow,if_true,if_neg hin];exact f2
   ·have hj:j<ei.size:=by rw[<-hes,<-f1];exact(List.getElem?_eq_some_iff.1 hv).1
    simp only[hes]
    rw[mV (by rw[hfl];exact hfit),hfl,if_neg ?_]
    ·have:=f3 j v hv
     rwa [hes]at this
    ·by_cases hlt:i<s
     ·have:=Nat.mul_le_mul_right ei.size (show i+1<=s by omega)
      rw[Nat.add_mul,Nat.one_mul]at this;omega
     ·have:=Nat.mul_le_mul_right ei.size (show s+min m n<=i by omega)
      rw[Nat.add_mul]at this;omega
theorem Ga (z:Array Value):∀n,(Builtin.zeroCells z n).toList=flat (fun _=>z.toList) n:=by
 intro n
 apply List.ext_getElem?
 intro i
 have hlen:=mK (cf:=fun _=>z.toList) (es:=z.size) (m:=n) fun _ _=>by simp
 by_cases hi:i<n*z.size
 ·have hz:0<z.size:=by
   rcases Nat.eq_zero_or_pos z.size with h|h
   ·rw[h]at hi;omega
   ·exact h
  have h1:=Nat.div_lt_of_lt_mul (show i<z.size*n by rw[Nat.mul_comm];exact hi)
  have h2:=pD (cf:=fun _=>z.toList) (es:=z.size) (m:=n) (fun _ _=>by simp) h1 (Nat.mod_lt i hz)
  rw[show i/z.size*z.size+i%z.size=i by rw[Nat.mul_comm];exact Nat.div_add_mod i z.size]at h2
  rw[h2]
  have h3:=Nat.mod_lt i hz
  simp[Builtin.zeroCells,List.getElem?_range hi,h3,getElem!_pos]
 ·rw[List.getElem?_eq_none (by simp[Builtin.zeroCells];omega),List.getElem?_eq_none aa]
include hT in
theorem TV (h:bF c st D β w) (hD:∀k,D k->D' k) {t ty:TypeId} {ti ei:TI}
  (ht:look t T=some ti) {e:TypeId} (hd:ti.desc=.slice e) (he:look e T=some ei) (h2:ei.zero.size=ei.size) (h3:ei.zero.isTuple=false)
  {k s n:Nat} {o:au} {sv:Value} (hs:bK (aO c st β) w β (.own k ei.size s n) sv) (hk:look k st=some o) (hrow:o.row=true) (hwr:o.wr=true) (hes:o.es=ei.size):
  ∃z w',(Builtin.clear_ #[t] ty #[sv]).run P w=.ok z w'/\
   fo c st D' β w [(k,some {o with f:=fun i=>if s<=i/\i<s+n then ei.zero else o.f i})] (.tuple []) z w':=by
 obtain⟨i,zz,hi,hz,hrep⟩:=(hT e ei he).zero h3
 have hu:=hd▸(hT t ti ht).dA
 rcases hs.own with hs|⟨rfl,rfl,rfl,k6⟩
 rotate_left
 ·have hrun:(Builtin.clear_ #[t] ty #[.slice none 0 0]).run P w=.ok (.tuple #[]) w:=by simp[Builtin.clear_,run_underlying hu]
  obtain⟨q1,q2⟩:=h.EB (o':={o with f:=fun i=>if 0<=i/\i<0+0 then ei.zero else o.f i}) hk (by
   have:(fun i=>if 0<=i/\i<0+0 then ei.zero else o.f i)=o.f:=funext fun i=>if_neg aa
   rw[this])
  exact⟨_,_,hrun,β,q1.mH hD,q2,[],rfl,trivial⟩
 obtain⟨b,off,scap,N,rfl,k1,k2,k3,k4,k5,k6⟩:=hs
 have hzl:zz.cells.size=ei.size:=by rw[<-Array.length_toList,(hrep (aO c st β) w β).cells.length];simp[sizes,h2]
 obtain⟨cs,cty,cfo,e1,e2,e3,e4,e5,e6⟩:=h.elems hk hrow k1
 have hfl:=mK (cf:=fun _=>zz.cells.toList) (m:=n) (es:=ei.size) fun i hi=>by simpa using hzl
 have hzc:=(hrep (aO c st β) w bG).cells
 have hfit:s*ei.size+n*ei.size<=cs.size:=by
  rw[e2,hes,<-Nat.add_mul];exact Nat.mul_le_mul_right _ aa
 have hrun:∃cs',(Builtin.clear_ #[t] ty #[.slice (some ⟨b,off,none⟩) n scap]).run P w=.ok (.tuple #[]) (w.setRow b cs')/\cs'=splice cs (s*ei.size) (flat (fun _=>zz.cells.toList) n):=by
  by_cases h0:n=0
  ·subst h0
   refine⟨cs,?_,?_⟩
   ·rw[setRow_self w b cs cty _ e1]
    simp[Builtin.clear_,run_underlying hu]
   ·simp[flat,splice]
  ·have hoff:off=s*ei.size:=by rcases k5 with k5|k5<;>omega
   subst hoff
   have hst:=run_storeCells_at P b (s*ei.size) cty (flat (fun _=>zz.cells.toList) n) 0 cs w e1 (by rw[hfl];simpa using hfit) (yV (g:=fun _=>ei.zero) fun i hi=>(hrep (aO c st β) w β).cells)
   simp only[Nat.add_zero]at hst
   refine⟨_,?_,rfl⟩
   obtain⟨n',rfl⟩:∃n',n=n'+1:=⟨n-1,aa⟩
   simp[Builtin.clear_,run_underlying hu,zeroValue,typeInfo,hi,hz,Ga,hst,splice]
 obtain⟨cs',hrun,rfl⟩:=hrun
 have hq:=h.write (o':={o with f:=fun i=>if s<=i/\i<s+n then ei.zero else o.f i}) hk hwr k1 e1 (zw (by rw[hfl];exact hfit)) rfl hwr rfl (fun i hi=>?_)
 ·exact⟨_,_,hrun,β,hq.1.mH hD,hq.2,[],rfl,trivial⟩
 ·have hi':i<o.len:=hi
  obtain⟨f1,f2,f3⟩:=e6 i hi'
  by_cases hin:s<=i/\i<s+n
  ·refine⟨zz.cells.toList,?_,?_,fun j v hv=>?_⟩
   ·simp only[Array.length_toList,hzl];exact hes.symm
   ·simp only[hrow,if_true,if_pos hin]
    exact hzc
   ·have hj:j<ei.size:=by rw[<-hzl,<-Array.length_toList];exact(List.getElem?_eq_some_iff.1 hv).1
    have h5:i*ei.size=s*ei.size+(i-s)*ei.size:=by rw[<-Nat.add_mul];congr 1;omega
    have h6:=Nat.mul_le_mul_right ei.size (show(i-s)+1<=n by omega)
    rw[Nat.add_mul,Nat.one_mul]at h6
    simp only[hes]
    rw[mV (by rw[hfl];exact hfit),hfl,if_pos aa]
    have h7:i*ei.size+j-s*ei.size=(i-s)*ei.size+j:=aa
    rw[h7,pD (fun i hi=>by simpa using hzl) aa hj]
    exact hv
  ·refine⟨cfo i,f1,?_,fun j v hv=>?_⟩
   ·simp only[hrow,if_true,if_neg hin];exact f2
   ·have hj:j<ei.size:=by rw[<-hes,<-f1];exact(List.getElem?_eq_some_iff.1 hv).1
    simp only[hes]
    rw[mV (by rw[hfl];exact hfit),hfl,if_neg ?_]
    ·have:=f3 j v hv
     rwa [hes]at this
    ·by_cases hlt:i<s
     ·have:=Nat.mul_le_mul_right ei.size (show i+1<=s by omega)
      rw[Nat.add_mul,Nat.one_mul]at this;omega
     ·have:=Nat.mul_le_mul_right ei.size (show s+n<=i by omega)
      rw[Nat.add_mul]at this;omega
theorem IT {M:Nat->Prop} {w:World} {β:aY} {f:Nat->AV} {cf:Nat->List Value}:∀{m:Nat},(∀i,i<m->aN M w β [f i] (cf i))->aN M w β ((List.range m).map f) (flat cf m)
 |0,_=>by simpa [flat]using aN.nil
 |m+1,h=>by
  rw[List.range_succ,List.map_append,s5]
  exact(IT fun i hi=>h i aa).append (h m aa)
theorem XR {M:Nat->Prop} {w:World} {b o es m:Nat} {cf:Nat->List Value} (hm:m≠0) (hes:0<es) (hl:∀i,i<m->(cf i).length=es) (h:∀i,i<m->iy M w b (o+i*es) (cf i)):iy M w b o (flat cf m):=by
 obtain⟨c,ty,fr,h1,h2,_⟩:=h 0 aa
 refine⟨c,ty,fr,h1,h2,fun i v hv=>?_⟩
 have hlt:=(List.getElem?_eq_some_iff.1 hv).1
 rw[mK hl]at hlt
 have hq:=Nat.div_lt_of_lt_mul (show i<es*m by rw[Nat.mul_comm];exact hlt)
 have hr:=Nat.mod_lt i hes
 have he:i/es*es+i%es=i:=by rw[Nat.mul_comm];exact Nat.div_add_mod i es
 have hg:=pD hl hq hr
 rw[he,hv]at hg
 obtain⟨c',ty',fr',g1,_,g3⟩:=h (i/es) hq
 rw[h1]at g1
 simp only[ay,Obj.cells.injEq]at g1
 obtain⟨rfl,_,_⟩:=g1
 have:=g3 (i%es) v hg.symm
 rwa [show o+i/es*es+i%es=o+i by omega]at this
include hT in
theorem Zk (h:bF c st D β w) (hD:∀k,D k->D' k) {t:TypeId} {ti:TI} (ht:look t T=some ti) {m e:Nat} (hd:ti.desc=.array m e) {es n:Nat} {f:Nat->AV} {xv:Value}
  (hx:bK (aO c st β) w β (.ak es n f) xv) (hm:m≠0) (hmn:m<=n):
  ∃z,(Instr.arrayAt t xv).run P w=.ok z w/\fo c st D' β w [] (.bg (.agg ((List.range m).map f))) z w:=by
 obtain⟨base,cap,cf,rfl,g1,g2,g3,g4,g5⟩:=hx.ak
 have hu:=hd▸(hT t ti ht).dA
 rcases g1 with g1|⟨b,o,rfl,g1⟩
 ·omega
 refine⟨.pointer (some ⟨b,o,none⟩),?_,dZ h hD (bw.bT (.cD (.bg (aN.agg (IT fun i hi=>g5 i aa) .nil) ?_ .nil) rfl))⟩
 ·have:¬n<m:=aa
  simp[Instr.arrayAt,run_underlying hu,this]
 ·rw[List.append_nil]
  exact XR hm g2 (fun i hi=>g4 i aa) fun i hi=>g1 i aa
end ops
section make
variable {P:Program} (w:World)
theorem acz (t tx ty e:TypeId) (i:TypeInfo) (z:Value) (ht:P.underlying t=some (.slice e)) (hk:P.underlying tx=some (.int .i64)) (hi:P.info? e=some i) (hz:i.zero=some z) (n:Nat) (h0:0<n) (hs:0<i.size)
  (h63:(n:Int)<9223372036854775808) (hb:n*i.bytes<=281474976710656) (hfit:Builtin.nextslicecap n 0*i.bytes<=281474976710656):
  (Builtin.append_ #[t,tx] ty #[.slice none 0 0,.int .i64 n]).run P w=
   .ok (.slice (some ⟨w.heap.size,0,none⟩) n (grownCap w n 0 e)) (w.drew.alloc (.cells (Builtin.zeroCells z.cells n++Builtin.zeroCells z.cells (grownCap w n 0 e-n)) e)):=by
 have hw:IntKind.i64.wrap (n:Int)=n:=by rw[IntKind.wrap_i64];omega
 have hn:¬n=0:=aa
 have hns:¬n*i.size=0:=by
  intro h;rcases Nat.mul_eq_zero.1 h with h|h<;>omega
 have h63':¬(9223372036854775807<(n:Int)):=aa
 have hb':¬(281474976710656<(n:Int)*(i.bytes:Int)):=by
  rw[<-Int.natCast_mul]
  omega
 have h48':¬(281474976710656<Builtin.nextslicecap n 0*i.bytes):=aa
 have hneg:¬((n:Int)<0):=aa
 have hf:(Builtin.firstCells i.size 0 (.slice none 0 0)).run P w.drew=.ok #[] w.drew:=by simp[Builtin.firstCells]
 set_option maxRecDepth 100000 in
 simp[Builtin.append_,run_underlying ht,run_underlying hk,sizeOf,typeInfo,zeroValue,hi,hz,asInt,asIntOf,hw,hn,hneg,h63',hb',h48',hns,Question.forced,hf,newRow,grownCap]
variable {T:Types} (hT:fu P T) {c:Ctx} {st pre:aC} {D D':Nat->Prop} {β:aY}
include hT in
theorem SE (h:bF c st D β w) (hD:∀k,D k->D' k) {K:Nat} (hK:¬D K) (hDK:D' K) {t t' ty:TypeId} {ti ti' ei:TI}
  (ht:look t T=some ti) (ht':look t' T=some ti') {e:TypeId} (hd:ti.desc=.slice e) (hd':ti'.desc=.int .i64) (he:look e T=some ei) (h1:ei.size≠0) (h2:ei.zero.size=ei.size)
  (h3:ei.zero.isTuple=false) {n:Int} (n0:0<n) (n1:n.toNat*(ei.bytes+1)*2<=2^47):
  ∃z w',(Builtin.append_ #[t,t'] ty #[.slice none 0 0,.int .i64 n]).run P w=.ok z w'/\fo c st D' β w [(K,some ⟨true,true,ei.size,n.toNat,fun _=>ei.zero⟩)] (.own K ei.size 0 n.toNat) z w':=by
 obtain⟨i,zz,hi,hz,hrep⟩:=(hT e ei he).zero h3
 obtain⟨i',hi',his,hib⟩:=(hT e ei he).info
 rw[hi]at hi'
 simp only[ay]at hi'
 subst hi'
 have hzl:zz.cells.size=ei.size:=by rw[<-Array.length_toList,(hrep (aO c st β) w β).cells.length];simp[sizes,h2]
 obtain⟨m,rfl⟩:∃m:Nat,n=(m:Int):=⟨n.toNat,aa⟩
 simp only[bf]at*
 have hmb:m*ei.bytes<=2^47:=Nat.le_trans (by rw[Nat.mul_assoc];exact Nat.mul_le_mul_left m aa) n1
 have hm2:m*2<=2^47:=Nat.le_trans (by rw[Nat.mul_assoc];exact Nat.mul_le_mul_left m aa) n1
 have hrun:=acz (P:=P) w t t' ty e i zz (hd▸(hT t ti ht).dA) (hd'▸(hT t' ti' ht').dA) hi hz m aa aa aa (by rw[hib];omega) (growslice_fits aa (by rw[hib];omega))
 have hcap:m<=grownCap w m 0 e:=by simp[grownCap,Question.cut]
 generalize grownCap w m 0 e=C at hrun hcap
 refine⟨_,_,hrun,β.set K (w.heap.size,C,m),?_⟩
 have e1:cV (aO c st β) w β (aO c st β) w.drew β:=cV.drew
 have ez:Builtin.zeroCells zz.cells m=(flat (fun _=>zz.cells.toList) m).toArray:=by
  apply Array.ext';rw[Ga]
 rw[ez]
 obtain⟨q1,q2⟩:=h.drew.vU (D':=D') (es:=ei.size) (f:=fun _=>ei.zero) (cf:=fun _=>zz.cells.toList) hK hD hDK aa hcap (fun i hi=>⟨by rw[Array.length_toList,hzl],(hrep _ _ _).cells⟩) (Z:=Builtin.zeroCells zz.cells (C-m)) (by rw[v7,hzl]) (ty:=e)
 refine⟨q1,e1.trans q2,bw.bT (.cD ?_ rfl)⟩
 exact aN.own (N:=(C,m)) (aY.gr _ _ _) ⟨by simp,by simp⟩ hcap (.inr (by simp)) aa .nil
end make
end Go.Am
namespace Go.Am
open AV
def dm:List (Nat×Option au)->Nat->Option (Option au)
 |[],_=>none
 |(j,o)::l,k=>match dm l k with
  |some r=>some r
  |none=>if j==k then some o else none
theorem lN:∀(cu:List (Nat×Option au)) (st:aC) (k:Nat),look k (cM cu st)=match dm cu k with
  |some r=>r
  |none=>look k st
 |[],st,k=>rfl
 |(j,some o)::l,st,k=>by
  simp only[cM,lN l,dm]
  cases dm l k with
  |some r=>rfl
  |none=>
   by_cases h:j=k
   ·subst h;simp[jd]
   ·have:k≠j:=fun e=>h e.symm
    simp[h,gl this]
 |(j,none)::l,st,k=>by
  simp only[cM,lN l,dm]
  cases dm l k with
  |some r=>rfl
  |none=>
   by_cases h:j=k
   ·subst h;simp[BV]
   ·have:k≠j:=fun e=>h e.symm
    simp[h,BV,this]
def tM (P:Program) (f:FuncId) (vs:List Value) (w:World) (R:Value->World->Prop):Prop:=
 (∃fn,P.funcs[f]?=some fn/\(fn.name== "runtime.NumGoroutine")=false/\fn.body.isNone=false/\Calls P f vs.toArray w fun e w'=>∃x,e=.returned x/\R x w')\/
 (∃x,(callFunc f vs.toArray).run P w=.ok (.value x) w/\R x w)
theorem tM.mono {P:Program} {f:FuncId} {vs:List Value} {w:World} {R R':Value->World->Prop} (h:tM P f vs w R) (hr:∀x w',R x w'->R' x w'):tM P f vs w R':=by
 rcases h with⟨fn,h1,h2,h3,h4⟩|⟨x,h1,h2⟩
 ·exact .inl ⟨fn,h1,h2,h3,h4.mono fun e w' ⟨x,he,hx⟩=>⟨x,he,hr _ _ hx⟩⟩
 ·exact .inr ⟨x,h1,hr _ _ h2⟩
theorem tM.HN {P:Program} {f:FuncId} {vs:List Value} {w:World} {R:Value->World->Prop} (h:tM P f vs w R):lX P (callFunc f vs.toArray) w R:=by
 rcases h with⟨fn,h1,h2,h3,h4⟩|⟨x,h1,h2⟩
 ·refine .inr (.inr ⟨f,vs.toArray,?_,h4⟩)
  simp only[callFunc,Sem.run_bind,run_program,Result.andThen_ok,h1,h2,h3,Bool.false_eq_true,if_false,Sem.run_pure]
 ·exact .inl ⟨x,w,h1,h2⟩
def aS (P:Program) (f:FuncId) (K:Nat) (args:List AV) (pre:aC) (r:dI):Prop:=
 r.need->(∀k o,look k r.post=some o->(∃o',look k pre=some o')\/(K<=k/\k<K+cT))/\
  ∀(c:Ctx) (D D':Nat->Prop) (β:aY) (w:World) (vs:List Value),c.w0=w->(∀b,c.Mw b->aO c pre β b)->bF c pre D β w->(∀k,D k->D' k)->(∀k,K<=k->k<K+cT->¬D k/\D' k)->
   cH (aO c pre β) w β args vs->tM P f vs w (fo c pre D' β w (gu r.post) r.res)
theorem Aw {pre:aC} {k:Nat} {o:au}:∀{post:aC},look k (cM (gu post) pre)=some o->look k (cM (lz post) pre)=some o:=by
 have key:∀post:aC,dm (gu post) k=dm (lz post) k\/dm (gu post) k=some none:=by
  intro post
  induction post with
  |nil=>exact .inl rfl
  |cons p post ih=>
   obtain⟨j,a⟩:=p
   show dm ((j,_)::gu post) k=dm ((j,some a)::lz post) k\/dm ((j,_)::gu post) k=some none
   simp only[dm]
   rcases ih with ih|ih
   ·rw[ih]
    cases h1:dm (lz post) k with
    |some r=>exact .inl rfl
    |none=>
     by_cases hjk:j=k
     ·simp only[hjk,BEq.rfl,if_true]
      cases a.es with
      |zero=>exact .inr rfl
      |succ n=>exact .inl rfl
     ·simp[hjk]
   ·rw[ih];exact .inr rfl
 intro post h
 rw[lN]at h ⊢
 rcases key post with h1|h1
 ·rw[<-h1];exact h
 ·rw[h1]at h;simp at h
theorem aew {post:aC} {k:Nat} {r:Option au} (h:dm (gu post) k=some r):∃o,look k post=some o:=by
 induction post with
 |nil=>simp[gu,dm]at h
 |cons p post ih=>
  obtain⟨j,o⟩:=p
  simp only[gu,List.map_cons,dm]at h
  by_cases hjk:j=k
  ·exact⟨o,by simp[look,hjk]⟩
  ·cases he:dm (gu post) k with
   |some r'=>
    obtain⟨o',ho'⟩:=ih (by
     simp only[gu]at he
     rw[he]at h
     simp only[ay]at h
     rw[<-h];exact he)
    exact⟨o',by simp[look,hjk,ho']⟩
   |none=>
    simp only[gu]at he
    rw[he]at h
    simp[hjk]at h
def FZ (pre:aC) (β:aY):Nat->Prop:=fun b=>∃k o,∃N:Nat×Nat,look k pre=some o/\o.wr=true/\β k=some (b,N)
def Ctx.inner (c:Ctx) (st pre:aC) (β:aY) (w:World):Ctx:=⟨fun b=>aO c st β b/\¬FZ pre β b,w,FZ pre β,β,none⟩
section frame
variable {c:Ctx} {st pre:aC} {D D':Nat->Prop} {β:aY} {w:World}
theorem FD (hpre:∀k o,look k pre=some o->look k st=some o):aO (c.inner st pre β w) pre β=aO c st β:=by
 funext b
 apply propext
 constructor
 ·rintro(h|⟨k,o,N,h1,h2,h3⟩)
  ·exact h.1
  ·exact .inr ⟨k,o,N,hpre k o h1,h2,h3⟩
 ·intro h
  by_cases hp:FZ pre β b
  ·exact .inr hp
  ·exact .inl ⟨h,hp⟩
def uu (pre:aC) (β:aY) (k:Nat):Prop:=β k≠none\/look k pre≠none
theorem JZ (h:bF c st D β w) (hpre:∀k o,look k pre=some o->look k st=some o) {k:Nat} (hk:uu pre β k):D k:=by
 cases hb:β k with
 |some x=>exact h.dom k x hb
 |none=>
  rcases hk with hk|hk
  ·exact absurd hb hk
  ·cases hl:look k pre with
   |none=>exact absurd hl hk
   |some o=>exact(h.dS k o (hpre k o hl) hb).2
theorem bF.inner (h:bF c st D β w) (hpre:∀k o,look k pre=some o->look k st=some o):bF (c.inner st pre β w) pre (uu pre β) β w where
 obj k o hk x hx:=by rw[FD hpre];exact h.obj k o (hpre k o hk) x hx
 dS k o hk hb:=⟨(h.dS k o (hpre k o hk) hb).1,.inr (by rw[hk];simp)⟩
 inj k k' o o' b N N' h1 h2:=h.inj k k' o o' b N N' (hpre _ _ h1) (hpre _ _ h2)
 dom k x hk:=.inl (by rw[hk];simp)
 keep _ _ h:=h
 lt:=h.lt
 os:=rfl
 tape:=rfl
 output:=rfl
 size:=bz
 block _ _ _:=rfl
 gE b hb:=by
  refine⟨?_,hb.2⟩
  rcases hb.1 with h1|⟨k,o,N,_,_,h3⟩
  ·exact Nat.lt_of_lt_of_le (h.gE b h1).1 h.size
  ·exact h.lt k b N h3
 new k o b N h1 h2 h3:=.inr ⟨k,o,N,h1,h2,h3⟩
theorem fo.outer (h:bF c st D β w) (hpre:∀k o,look k pre=some o->look k st=some o) (hD:∀k,D k->D' k) {K:Nat} (hK:∀k,K<=k->k<K+cT->¬D k/\D' k) {cu:List (Nat×Option au)}
  (heff:∀k r,dm cu k=some r->(∃o',look k pre=some o')\/(K<=k/\k<K+cT)) {v:AV} {x:Value} {w':World} (hr:fo (c.inner st pre β w) pre (fun k=>uu pre β k\/(K<=k/\k<K+cT)) β w cu v x w'):fo c st D' β w cu v x w':=by
 obtain⟨β',g,e,hv⟩:=hr
 have hDD:∀k,(uu pre β k\/(K<=k/\k<K+cT))->D' k:=fun k hk=>hk.elim (fun hk=>hD k (JZ h hpre hk)) fun hk=>(hK k hk.1 hk.2).2
 have hout:∀k,D k->β k=none->look k pre=none->β' k=none:=fun k hk hb hp=>by
  cases hb':β' k with
  |none=>rfl
  |some x=>
   rcases g.dom k x hb' with(h1|h1)|h1
   ·exact absurd hb h1
   ·exact absurd hp h1
   ·exact absurd hk (hK k h1.1 h1.2).1
 -- inside or outside
 have hcase:∀k,(look k (cM cu pre)=look k (cM cu st))\/(dm cu k=none/\look k pre=none/\look k (cM cu st)=look k st):=fun k=>by
  simp only[lN]
  cases he:dm cu k with
  |some r=>exact .inl rfl
  |none=>
   cases hp:look k pre with
   |some o=>exact .inl (hpre k o hp).symm
   |none=>exact .inr ⟨rfl,rfl,rfl⟩
 have hrest:∀k o b N,look k st=some o->look k pre=none->o.wr=true->β k=some (b,N)->(c.inner st pre β w).Mf b:=fun k o b N h1 h2 h3 h4=>by
  refine⟨.inr ⟨k,o,N,h1,h3,h4⟩,fun⟨k2,o2,N2,p1,p2,p3⟩=>?_⟩
  have:=h.inj k k2 o o2 b N N2 h1 (hpre _ _ p1) h3 h4 p3
  subst this
  rw[h2]at p1;simp at p1
 have hβ:∀k o b N,look k st=some o->look k pre=none->β' k=some (b,N)->β k=some (b,N):=fun k o b N h1 hp h2=>by
  cases hb:β k with
  |none=>rw[hout k (h.dS k o h1 hb).2 hb hp]at h2;simp at h2
  |some y=>
   have:=e.keys k _ hb
   rw[h2]at this
   exact this.symm
 have hM:aO (c.inner st pre β w) (cM cu pre) β'=aO c (cM cu st) β':=by
  funext b
  apply propext
  constructor
  ·rintro(⟨h1,h2⟩|⟨k,o,N,h1,h2,h3⟩)
   ·rcases h1 with h1|⟨k,o,N,k1,k2,k3⟩
    ·exact .inl h1
    ·have hkp:look k pre=none:=by
      cases hp:look k pre with
      |none=>rfl
      |some o'=>
       have:=hpre k o' hp
       rw[k1]at this
       simp only[ay]at this
       subst this
       exact absurd ⟨k,o,N,hp,k2,k3⟩ h2
     have hek:dm cu k=none:=by
      cases he:dm cu k with
      |none=>rfl
      |some r=>
       rcases heff k r he with⟨o',ho'⟩|hk
       ·rw[hkp]at ho';simp at ho'
       ·exact absurd (h.dom k _ k3) (hK k hk.1 hk.2).1
     exact .inr ⟨k,o,N,by rw[lN,hek];exact k1,k2,e.keys _ _ k3⟩
   ·rcases hcase k with hc|⟨_,hc,hc2⟩
    ·exact .inr ⟨k,o,N,by rw[<-hc];exact h1,h2,h3⟩
    ·rw[lN]at h1
     cases he:dm cu k with
     |some r=>rw[lN,he]at hc2;rw[he]at h1;exact .inr ⟨k,o,N,by rw[lN,he];exact h1,h2,h3⟩
     |none=>rw[he,hc]at h1;simp at h1
  ·rintro(h1|⟨k,o,N,h1,h2,h3⟩)
   ·exact .inl ⟨.inl h1,fun⟨k,o,N,p1,p2,p3⟩=>h.BN (hpre _ _ p1) p2 p3 h1⟩
   ·rcases hcase k with hc|⟨_,hc,hc2⟩
    ·exact .inr ⟨k,o,N,by rw[hc];exact h1,h2,h3⟩
    ·rw[hc2]at h1
     exact .inl (hrest k o b N h1 hc h2 (hβ k o b N h1 hc h3))
 have e':cV (aO c st β) w β (aO c (cM cu st) β') w' β':=by
  rw[<-hM,<-FD (c:=c) (w:=w) hpre];exact e
 have hsame:∀k o b N,look k st=some o->look k pre=none->β k=some (b,N)->w'.heap[b]?=w.heap[b]?:=fun k o b N h1 h2 h3=>by
  refine g.block b (h.lt k b N h3) fun⟨k2,o2,N2,p1,p2,p3⟩=>?_
  have hp:=hpre _ _ p1
  have:=h.inj k2 k o2 o b N2 N hp h1 p2 p3 h3
  subst this
  rw[h2]at p1;simp at p1
 refine⟨β',?_,e',?_⟩
 ·refine {obj:=?_,dS:=fun k o hk hb=>?_,inj:=?_,dom:=fun k x hk=>hDD k (g.dom k x hk),keep:=fun k x hk=>e'.keys _ _ (h.keep k x hk),lt:=g.lt,os:=g.os.trans h.os,tape:=g.tape.trans h.tape,output:=g.output.trans h.output,size:=Nat.le_trans h.size g.size,block:=?_,gE:=h.gE,new:=?_}
  ·intro k o hk x hx
   rcases hcase k with hc|⟨_,hc,hc2⟩
   ·rw[<-hM];exact g.obj k o (by rw[hc];exact hk) x hx
   ·rw[hc2]at hk
    refine(h.obj k o hk x (hβ k o x.1 x.2 hk hc hx)).iM e' (fun b N cs ty hb hx=>by rw[hsame k o b N hk hc hb];exact hx) (fun b N hb hw=>?_)
    rw[<-hM];exact .inl (hrest k o b N hk hc hw hb)
  ·rcases hcase k with hc|⟨_,hc,hc2⟩
   ·have:=g.dS k o (by rw[hc];exact hk) hb
    exact⟨this.1,hDD k this.2⟩
   ·rw[hc2]at hk
    cases hb2:β k with
    |none=>exact⟨(h.dS k o hk hb2).1,hD k (h.dS k o hk hb2).2⟩
    |some y=>rw[e.keys k y hb2]at hb;simp at hb
  ·intro k k' o o' b N N' h1 h2 hw hb hb'
   rcases hcase k with hc|⟨_,hc,hc2⟩
   ·rcases hcase k' with hc'|⟨_,hc',hc2'⟩
    ·exact g.inj k k' o o' b N N' (by rw[hc];exact h1) (by rw[hc'];exact h2) hw hb hb'
    ·rw[hc2']at h2
     have hk1:look k (cM cu pre)=some o:=by rw[hc];exact h1
     have hbb:=hβ k' o' b N' h2 hc' hb'
     by_cases hw':o'.wr=true
     ·exact absurd (hrest k' o' b N' h2 hc' hw' hbb) (g.BN hk1 hw hb)
     ·obtain⟨b1,N1,cs,ty,a1,a2,a3,a4,a5,a6,a7,_⟩:=h.obj k' o' h2 _ hbb
      rw[hbb]at a1
      simp only[ay,Prod.mk.injEq]at a1
      obtain⟨rfl,rfl⟩:=a1
      have:=(e'.heap b _ (a7 (by simpa using hw')) a2).2
      exact absurd (.inr ⟨k,o,N,h1,hw,hb⟩) this
   ·rw[hc2]at h1
    have hbk:=hβ k o b N h1 hc hb
    have hmf:=hrest k o b N h1 hc hw hbk
    rcases hcase k' with hc'|⟨_,hc',hc2'⟩
    ·have hk2:look k' (cM cu pre)=some o':=by rw[hc'];exact h2
     by_cases hw':o'.wr=true
     ·exact absurd hmf (g.BN hk2 hw' hb')
     ·obtain⟨b1,N1,cs,ty,a1,a2,a3,a4,a5,a6,a7,_⟩:=g.obj k' o' hk2 _ hb'
      rw[hb']at a1
      simp only[ay,Prod.mk.injEq]at a1
      obtain⟨rfl,rfl⟩:=a1
      exact absurd (.inl hmf) (a7 (by simpa using hw'))
    ·rw[hc2']at h2
     exact h.inj k k' o o' b N N' h1 h2 hw hbk (hβ k' o' b N' h2 hc' hb')
  ·intro b hb hm
   rw[<-h.block b hb hm]
   refine g.block b (Nat.lt_of_lt_of_le hb h.size) fun⟨k2,o2,N2,p1,p2,p3⟩=>?_
   rcases h.new k2 o2 b N2 (hpre _ _ p1) p2 p3 with h1|h1
   ·omega
   ·exact hm h1
  ·intro k o b N hk hw hb
   rcases hcase k with hc|⟨_,hc,hc2⟩
   ·rcases g.new k o b N (by rw[hc];exact hk) hw hb with h1|⟨k2,o2,N2,p1,p2,p3⟩
    ·left
     have h2:w.heap.size<=b:=h1
     have:=h.size;omega
    ·exact h.new k2 o2 b N2 (hpre _ _ p1) p2 p3
   ·rw[hc2]at hk
    exact h.new k o b N hk hw (hβ k o b N hk hc hb)
 ·rw[<-hM];exact hv
theorem aS.use {P:Program} {f:FuncId} {K:Nat} {args:List AV} {r:dI} (hf:aS P f K args pre r) (need:r.need) (h:bF c st D β w) (hpre:∀k o,look k pre=some o->look k st=some o)
  (hD:∀k,D k->D' k) (hK:∀k,K<=k->k<K+cT->¬D k/\D' k) {vs:List Value} (hv:cH (aO c st β) w β args vs):tM P f vs w (fo c st D' β w (gu r.post) r.res):=by
 obtain⟨hpost,hf⟩:=hf need
 refine(hf (c.inner st pre β w) (uu pre β) (fun k=>uu pre β k\/(K<=k/\k<K+cT)) β w vs rfl (fun b hb=>.inr hb) (h.inner hpre) (fun _ h=>.inl h) (fun k h1 h2=>⟨fun h3=>(hK k h1 h2).1 (JZ h hpre h3),.inr ⟨h1,h2⟩⟩) (by rw[FD hpre];exact hv)).mono fun x w' hx=>?_
 refine hx.outer h hpre hD hK (fun k r hr=>?_)
 obtain⟨o,ho⟩:=aew hr
 exact hpost k o ho
theorem aS.frame {P:Program} {f:FuncId} {K:Nat} {args:List AV} {r:dI} {pre':aC} (hf:aS P f K args pre r) (hp:∀k o,look k pre=some o->look k pre'=some o):aS P f K args pre' r:=by
 intro need
 refine⟨fun k o ho=>?_,fun c D D' β w vs _ _ h hD hK hv=>hf.use need h hp hD hK hv⟩
 rcases(hf need).1 k o ho with⟨o',h1⟩|h1
 ·exact .inl ⟨o',hp k o' h1⟩
 ·exact .inr h1
end frame
end Go.Am
namespace Go.Am
open AV
def bq (P:Program) (Γ:aX):Prop:=∀f s,look f Γ=some s->∀K args pre r,s K args pre=some r->aS P f K args pre r
section ops
variable {P:Program} {T:Types} (hT:fu P T) {Γ:aX} (hΓ:bq P Γ)
variable {c:Ctx} {st pre:aC} {D D':Nat->Prop} {β:aY} {w:World}
theorem nY {M:Nat->Prop} {ρ:Operand->Option AV} {ev:Operand->Value} (hρ:∀x v,ρ x=some v->bK M w β v (ev x)):
  ∀{l:List Operand} {vs:List AV},fh ρ l=some vs->cH M w β vs (l.map ev)
 |[],vs,h=>by simp only[fh,ay]at h;subst h;exact trivial
 |x::l,vs,h=>by
  simp only[fh]at h
  cases hx:ρ x with
  |none=>grind
  |some a=>
   cases hl:fh ρ l with
   |none=>grind
   |some m=>
    rw[hx,hl]at h
    simp only at h
    split at h
    ·grind
    ·simp at h
     subst h
     exact⟨(hρ x a hx).one (by grind),nY hρ hl⟩
theorem cH.append {M:Nat->Prop}:∀{l m:List AV} {xs ys:List Value},cH M w β l xs->cH M w β m ys->cH M w β (l++m) (xs++ys)
 |[],_,[],_,_,h=>h
 |_::_,_,_::_,_,h,h'=>⟨h.1,cH.append h.2 h'⟩
 |[],_,_::_,_,h,_=>h.elim
 |_::_,_,[],_,h,_=>h.elim
theorem Kh {M:Nat->Prop}:∀{l:List AV} {vs:List Value},aN M w β l vs->(l.all fun v=>!v.isAgg&&!v.isTuple)=true->cH M w β l vs
 |[],vs,h,_=>by cases h;exact trivial
 |a::l,vs,h,hall=>by
  obtain⟨c1,c2,rfl,h1,h2⟩:=h.split
  simp only[List.all_cons,Bool.and_eq_true,Bool.not_eq_true']at hall
  have hl:c1.length=1:=by
   rw[h1.length]
   have:=hall.1.1
   cases a<;>first|rfl|cases this
  obtain⟨x,rfl⟩:∃x,c1=[x]:=by
   match c1,hl with
   |[x],_=>simp
  exact⟨.cD h1 hall.1.1,Kh h2 hall.2⟩
theorem cH.Mn {M:Nat->Prop}:∀{l:List AV} {xs:List Value},cH M w β l xs->(l.all fun v=>!v.isAgg&&!v.isTuple)=true->aN M w β l xs
 |[],[],_,_=>.nil
 |a::l,x::xs,h,hall=>by
  simp only[List.all_cons,Bool.and_eq_true,Bool.not_eq_true']at hall
  have:=aN.cons (h.1.cell hall.1.1) (cH.Mn h.2 hall.2)
  grind
 |[],_::_,h,_=>h.elim
 |_::_,[],h,_=>h.elim
theorem cH.two {M:Nat->Prop} {a b:AV} {xs:List Value} (h:cH M w β [a,b] xs):∃x y,xs=[x,y]/\bw M w β a x/\bw M w β b y:=by
 match xs,h with
 |[x,y],h=>exact⟨x,y,rfl,h.1,h.2.1⟩
theorem cH.single {M:Nat->Prop} {a:AV} {xs:List Value} (h:cH M w β [a] xs):∃x,xs=[x]/\bw M w β a x:=by
 match xs,h with
 |[x],h=>exact⟨x,rfl,h.1⟩
theorem cH.get {M:Nat->Prop}:∀{l:List AV} {xs:List Value},cH M w β l xs->∀(i:Nat) (v:AV),l[i]?=some v->∃x,xs[i]?=some x/\bw M w β v x
 |[],[],_,i,v,h=>by grind
 |a::l,x::xs,h,0,v,hi=>by simp at hi;subst hi;exact⟨x,rfl,h.1⟩
 |a::l,x::xs,h,i+1,v,hi=>by simpa using cH.get h.2 i v (by grind)
 |[],_::_,h,_,_,_=>h.elim
 |_::_,[],h,_,_,_=>h.elim
theorem bw.Ci {M:Nat->Prop} {k:IntKind} {n:Int} {x:Value} (h:bw M w β (.int k n) x):x=.int k n:=bK.int h
theorem V4 {M:Nat->Prop} {v:AV} {x:Value} (hv:bw M w β v x) {n:Nat} (hn:lenOf v=some n):∃base cap,x=.slice base n cap:=by
 cases v<;>simp only[lenOf,ay,reduceCtorEq]at hn
 case ak=>subst hn;obtain⟨base,cap,_,rfl,_⟩:=hv.bT.ak;simp
 case mag=>subst hn;obtain⟨base,cap,rfl,_⟩:=hv.bT.mag;simp
 case own=>
  subst hn
  rcases hv.bT.own with⟨b,o,cap,_,rfl,_⟩|⟨rfl,_,rfl,_⟩
  all_goals simp
 case nil=>have:=hv.bT.nil;grind
include hT in
theorem aap {M:Nat->Prop} {t:TypeId} {ti ei:TI} (ht:look t T=some ti) {e:TypeId} (hd:ti.desc=.slice e) (he:look e T=some ei) {v:AV} {x:Value} (hv:bw M w β v x)
  {ρ:Operand->Option AV} {ev:Operand->Value} (hρ:∀x v,ρ x=some v->bK M w β v (ev x)) {lo hi mx:Option Operand} {l h m:Int} {n:Nat} (hn:lenOf v=some n)
  (hl:cI ρ 0 lo=some l) (hh:cI ρ n hi=some h) (hm:cI ρ h mx=some m) (h0:0<=l) (h1:l<=h) (h2:h<=m) (h3:m<=n) (hmx:mx.isSome=true->hi.isSome=true):
  ∀u,rN ei.size v l.toNat h.toNat=some u->
   ∃y,(Instr.sliceAt t x (lo.map ev) (hi.map ev) (mx.map ev)).run P w=.ok y w/\bw M w β u y:=by
 intro u hu
 have main:∀base cap,x=.slice base n cap->n<=cap->∃m':Nat,(Instr.sliceAt t x (lo.map ev) (hi.map ev) (mx.map ev)).run P w=
   .ok (.slice (if m'=l.toNat then base else base.map (·.add (l.toNat*ei.size))) (h.toNat-l.toNat) (m'-l.toNat)) w/\h.toNat<=m'/\m'<=cap:=fun base cap hx hc=>by
  obtain⟨m',q1,q2,q3⟩:=adn (P:=P) hρ hl hh hm h0 h1 h2 h3 hc hmx
  subst hx
  exact⟨m',yJ hT ht hd he q1,q2,q3⟩
 cases v with
 |ak es n' f=>
  simp only[lenOf,ay]at hn
  subst hn
  simp only[rN]at hu
  split at hu
  ·simp at hu
   subst hu
   obtain⟨base,cap,cf,rfl,g1,g2,g3,g4,g5⟩:=hv.bT.ak
   obtain⟨m',q1,q2,q3⟩:=main base cap rfl g3
   refine⟨_,q1,.cD (.ak (cf:=fun i=>cf (i+l.toNat)) ?_ g2 aa (fun i hi=>g4 _ aa) (fun i hi=>g5 _ aa) .nil) rfl⟩
   by_cases hz:h.toNat-l.toNat=0
   ·omega
   ·right
    rcases g1 with g1|⟨b,o,rfl,g1⟩
    ·omega
    ·refine⟨b,o+l.toNat*ei.size,?_,fun i hi=>?_⟩
     ·rw[if_neg aa];simp[Addr.add_mid]
     grind
  grind
 |mag N=>
  simp only[lenOf,ay]at hn
  subst hn
  simp only[rN]at hu
  split at hu
  ·simp at hu
   subst hu
   obtain⟨base,cap,rfl,g1,g2⟩:=hv.bT.mag
   obtain⟨m',q1,q2,q3⟩:=main base cap rfl g2
   refine⟨_,q1,.cD (.ak (cf:=fun i=>[.int .u32 (aD N (i+l.toNat))]) ?_ aa aa (fun i hi=>rfl) (fun i hi=>.int .nil) .nil) rfl⟩
   by_cases hz:h.toNat-l.toNat=0
   ·omega
   ·right
    rcases g1 with g1|⟨b,o,rfl,g1⟩
    ·subst g1;rw[vJ]at h3;omega
    ·refine⟨b,o+l.toNat*ei.size,?_,fun i hi=>?_⟩
     ·rw[if_neg aa];simp[Addr.add_mid]
     ·obtain⟨cs,ty,fr,p1,p2,p3⟩:=g1
      refine⟨cs,ty,fr,p1,p2,fun j v hv=>?_⟩
      have:=p3 _ _ (A5 (N:=N) (i:=i+l.toNat) aa)
      grind
  grind
 |own k es s n'=>
  simp only[lenOf,ay]at hn
  subst hn
  simp only[rN]at hu
  split at hu
  ·simp at hu
   subst hu
   rcases hv.bT.own with g|⟨rfl,rfl,rfl,g6⟩
   rotate_left
   ·grind
   obtain⟨b,o,cap,N,rfl,g1,g2,g3,g4,g5,g6⟩:=g
   obtain⟨m',q1,q2,q3⟩:=main _ cap rfl g4
   refine⟨_,q1,?_⟩
   by_cases hz:m'=l.toNat
   ·rw[if_pos hz]
    exact .cD (.own g1 ⟨aa,aa⟩ aa (.inl aa) g6 .nil) rfl
   ·rw[if_neg hz]
    simp only[Option.map_some,Addr.add_mid]
    refine .cD (.own g1 ⟨aa,aa⟩ aa (.inr ?_) g6 .nil) rfl
    grind
  grind
 |nil=>
  simp only[lenOf,ay]at hn
  simp only[rN,ay]at hu
  have:=hv.bT.nil
  grind
 |_=>simp[lenOf]at hn
theorem ahA {M:Nat->Prop} {ρ:Operand->Option AV} {ev:Operand->Value} (hρ:∀x v,ρ x=some v->bK M w β v (ev x)) {lo hi:Option Operand} {l h:Int} {n:Nat}
  (hl:cI ρ 0 lo=some l) (hh:cI ρ n hi=some h) (h0:0<=l) (h1:l<=h) (h3:h<=n):
  (Instr.sliceBounds false n n (lo.map ev) (hi.map ev) none).run P w=.ok (l.toNat,h.toNat,n) w:=by
 rcases ji hρ hh with⟨rfl,rfl⟩|⟨kh,oh,rfl,hoh⟩
 ·rcases ji hρ hl with⟨rfl,rfl⟩|⟨kl,ol,rfl,hol⟩
  ·rfl
  ·simp[Instr.sliceBounds,hol,jg kl l n .sliceB h0 h1]
 ·have b2:=jg (P:=P) (w:=w) kh h n .sliceAlen aa aa
  rcases ji hρ hl with⟨rfl,rfl⟩|⟨kl,ol,rfl,hol⟩
  ·simp[Instr.sliceBounds,hoh,b2]
  ·simp[Instr.sliceBounds,hol,hoh,b2,jg kl l h.toNat .sliceB h0 aa]
include hT in
theorem aen (h:bF c st D β w) (hpre:∀k o,look k pre=some o->look k st=some o) (hD:∀k,D k->D' k) {t:TypeId} {ti ei:TI} (ht:look t T=some ti) {n:Nat} {e:TypeId} (hd:ti.desc=.array n e) (he:look e T=some ei) {v:AV} {x:Value} (hv:bK (aO c st β) w β v x)
  {ρ:Operand->Option AV} {ev:Operand->Value} (hρ:∀x v,ρ x=some v->bK (aO c st β) w β v (ev x)) {lo hi:Option Operand} {l b:Int}
  (hl:cI ρ 0 lo=some l) (hh:cI ρ n hi=some b) {r:fk} (hr:CS pre ei n v l b=some r) (need:r.need):
  ∃y,(Instr.sliceAt t x (lo.map ev) (hi.map ev) none).run P w=.ok y w/\fo c st D' β w r.cu r.val y w:=by
 unfold CS at hr
 split at hr
 ·rename_i k idx es off path
  split at hr
  ·rename_i o hk
   split at hr
   ·rename_i m hg
    split at hr
    ·rename_i hc
     simp at hr
     subst hr
     simp at hc
     obtain⟨⟨⟨⟨⟨c1,c2⟩,c3⟩,c4⟩,c5⟩,c6⟩:=hc
     obtain⟨n1,n2,n3,n4⟩:=need
     obtain⟨blk,N,hb,rfl⟩:=hv.ptr
     have hk':=hpre k o hk
     obtain⟨hw,hev⟩:=h.freeze hk'
     obtain⟨cs,ty,ps,e1,e2,e3,e4,e5,e6,_⟩:=h.elem hk' hb n1
     obtain⟨pr,cc,po,rfl,q1,q2,_⟩:=aN.path path e3 _ hg
     have q3:aN (aO c st β) w β m cc:=by simpa [AV.kids]using q2.lift.kids rfl
     have q4:aN (aO c st β) w bG m cc:=BY q3 c4
     have hfr:¬aO c (put k {o with wr:=false} st) β blk:=by
      obtain⟨b1,N1,cs1,ty1,a1,a2,_,_,_,_,a7,_⟩:=hw.obj k _ jd _ hb
      grind
     obtain⟨inf,hi',his,_⟩:=(hT e ei he).info
     have hu:=hd▸(hT t ti ht).dA
     refine⟨.slice (some (if n=l.toNat then⟨blk,idx*es+off,none⟩else Addr.add ⟨blk,idx*es+off,none⟩ (l.toNat*ei.size))) (b.toNat-l.toNat) (n-l.toNat),?_,β,hw.mH hD,hev,?_⟩
     ·simp[Instr.sliceAt,run_underlying hu w,Instr.sureAddr,ahA (P:=P) hρ hl hh n2 n3 n4,sizeOf,typeInfo,hi',his]
     ·refine bw.bT (.cD ?_ rfl)
      obtain⟨g,hgl,hgr,hgm⟩:∃g:Nat->List Value,(∀i,i<n->(g i).length=ei.size)/\(∀i,i<n->aN (aO c st β) w bG [nth m ei.zero i] (g i))/\∀i,i<n->∀j v,(g i)[j]?=some v->cc[i*ei.size+j]?=some v:=by
       have:∀i,∃ps:List Value,i<n->ps.length=ei.size/\aN (aO c st β) w bG [nth m ei.zero i] ps/\∀j v,ps[j]?=some v->cc[i*ei.size+j]?=some v:=fun i=>by
        by_cases hi:i<n
        ·obtain⟨ps,p1,p2,p3⟩:=aN.nth (z:=ei.zero) q4 c3 i aa
         exact⟨ps,fun _=>⟨p1,p2,p3⟩⟩
        ·exact⟨[],fun h=>absurd h hi⟩
       obtain⟨g,hg⟩:=Classical.skolem.1 this
       exact⟨g,fun i hi=>(hg i hi).1,fun i hi=>(hg i hi).2.1,fun i hi=>(hg i hi).2.2⟩
      have hin:∀i,i<n->iy (aO c (put k {o with wr:=false} st) β) w blk (idx*es+off+i*ei.size) (g i):=fun i hi=>⟨cs,ty,_,e1,hfr,fun j u hu=>by
       have h1:=hgm i hi j u hu
       have h2:=Ex e4 _ u h1
       rw[c1,q1,c2,<-Nat.add_assoc]at h2
       exact h2⟩
      by_cases hz:n=l.toNat
      ·exact .ak (cf:=fun i=>g (i+l.toNat)) (.inl aa) aa aa (fun i hi=>aa) (fun i hi=>aa) .nil
      ·rw[if_neg hz]
       refine .ak (cf:=fun i=>g (i+l.toNat)) (.inr ⟨blk,idx*es+off+l.toNat*ei.size,by simp[Addr.add_mid],fun i hi=>?_⟩) aa aa (fun i hi=>hgl _ aa) (fun i hi=>(hgr _ aa).pz hev) .nil
       have:=hin (i+l.toNat) aa
       rwa [Nat.add_mul,Nat.add_comm (i*ei.size),<-Nat.add_assoc]at this
    grind
   grind
  grind
 grind
end ops
end Go.Am
