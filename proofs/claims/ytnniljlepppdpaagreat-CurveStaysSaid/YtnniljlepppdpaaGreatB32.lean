/- brepkernelmade: Mod, Light, Roll, Part, Next, number, Number, Point, Map. -/
import Derived.Test.YtnniljlepppdpaaGreatB31
import Derived.Test.YtnniljlepppdpaaGreatZ2
set_option linter.unusedVariables false
namespace Go.Am.B
open Go Go.Am.N AV
theorem adv:aR P xO C8 (az C8):=aS Proofs.Tryz.func139 ag ag ag
theorem adp:aR P Gx EN (az EN):=aS Proofs.Tryz.func9 ag ag ag
theorem amw:aR P Hw HN (az HN):=aS Proofs.Tryz.func60 ag ag ag
theorem acn:aR P sw DB (az DB):=aS Proofs.Tryz.func167 ag ag ag
abbrev jx (n:Nat) (f:Nat->AV) (a:Int):au:=⟨false,true,2,1,fun _=>.agg [.ak 1 n f,.int .i64 a]⟩
theorem akr {x m:Int}:bS T [] [9] 60 C8 (az C8) ⟨aP 0 [.int .i64 x,.int .i64 m],[],0⟩=
  some (ah.aj [m≠(0:Int)] (ah.fork (decide (x.tmod m<(0:Int))) (ah.leaf aq.ret [int IntKind.i64 (IntKind.i64.wrap (x.tmod m+m))]) (ah.leaf aq.ret [int IntKind.i64 (x.tmod m)]))):=ag
theorem aev {n:Nat} {f:Nat->AV}:bS T [] [] 60 EN (az EN) ⟨aP 0 [.ak 1 n f],[],0⟩=
  some (ah.leaf aq.ret [AV.bool (decide ((↑n:Int)<=(500:Int)))]):=ag
theorem W9 {n:Nat} {f:Nat->AV}:aI T [] [] 60 [2] [az HN] ⟨aP 0 [.ak 1 n f],[],0⟩=some (.leaf .ret ([.ptr 12288 0 2 0 []],[(12288,jx n f 0)])):=ag
theorem YI {x m:Int} (h1:0<m) (h2:m<2^62) (K:Nat):aD P xO K [.int .i64 x,.int .i64 m] [] (aK (.int .i64 (x%m)) []):=by
 refine bY hT bC hm adv rfl aW rfl 60 akr (fun _=>?_) K []
 simp only[ah.all,aA,bh,bz]
 have h3:=Int.tmod_lt_of_pos x h1
 have h4:=Int.lt_tmod_of_pos x h1
 have h5:=Int.emod_nonneg x (show m≠0 by omega)
 have h6:=Int.emod_lt_of_pos x h1
 have h7:=Int.tmod_eq_emod (a:=x) (b:=m)
 have h8:∀{v:Int},v<0->v=x%m-((if 0<=x\/m∣x then 0 else m.natAbs:Nat):Int)->v+m=x%m:=fun {v} g1 g2=>by
  by_cases h:0<=x\/m∣x
  ·rw[if_pos h]at g2;omega
  ·rw[if_neg h]at g2;omega
 have h9:∀{v:Int},¬v<0->v=x%m-((if 0<=x\/m∣x then 0 else m.natAbs:Nat):Int)->v=x%m:=fun {v} g1 g2=>by
  by_cases h:0<=x\/m∣x
  ·rw[if_pos h]at g2;omega
  ·rw[if_neg h]at g2;omega
 refine⟨aa,fun hb=>bN ?_,fun hb=>bN (h9 hb h7)⟩
 rw[wrap_i64 aa aa]
 exact h8 hb h7
def FZ:Spec:=bU fun l=>match l with
 |[.int .i64 x,.int .i64 m]=>some (aK (.int .i64 (x%m)) [0<m,m<2^62])
 |_=>none
def GM:aX:=[(xO,FZ)]
theorem Ou:∀K args pre r,FZ K args pre=some r->aD P xO K args pre r:=by
 refine cB fun K args r hk hs _=>?_
 split at hs
 ·simp only[ax]at hs
  subst hs
  exact fun need=>YI need.1 need.2 K trivial
 ·simp at hs
theorem afG:bq P GM:=aH Ou bC
theorem WE {n:Nat} {z:Nat->Int} {a m:Int}:uY T GM [14] 60 DB (az DB) ⟨aP 0 [.ptr 0 0 2 0 [],.int .i64 m],[(0,jx n (fun i=>.int .i64 (z i)) a)],1⟩=
  let c4:Int:=IntKind.i64.wrap (a+(1:Int));let c3:Prop:=0<1;let c1:AV:=agg [ak 1 n fun i=>int IntKind.i64 (z i),int IntKind.i64 a];let c2:Int:=IntKind.i64.wrap (c4-(1:Int));some (ah.aj [c3,c3] (ah.fork (decide (a>=(↑n:Int))) (ah.leaf aq.ret ([int IntKind.i64 (0:Int)],some (au.mk false true 2 1 fun x=>c1))) (ah.aj [c3,c3] (ah.aj [c3,c3,(0:Int)<=c2/\c2.toNat<n,(0:Int)<m,m<(2:Int)^62] (ah.leaf aq.ret ([int IntKind.i64 (z c2.toNat%m)],some (au.mk false true 2 1 fun j=>if(j==0)=true then agg (c1.kids.set 1 (bt (int IntKind.i64 c4)))else c1))))))):=ag
def intOf:AV->Int
 |.int _ n=>n
 |_=>0
def dz (n:Nat) (f:Nat->AV) (a m:Int):Int:=if(n:Int)<=a then 0 else intOf (f a.toNat)%m
def bP (n:Nat) (a:Int):Int:=if(n:Int)<=a then a else a+1
structure dr (n:Nat) (f:Nat->AV) (a:Int):Prop where
 ints:∀i,f i=.int .i64 (intOf (f i))
 lo:0<=a
 hi:a<=n
 len:n<2^62
theorem dr.next {n:Nat} {f:Nat->AV} {a:Int} (h:dr n f a):dr n f (bP n a):=
 ⟨h.ints,by have:=h.lo;unfold bP;split<;>omega,by have:=h.hi;unfold bP;split<;>omega,h.len⟩
theorem jb {n:Nat} {f:Nat->AV} {a m:Int} (hm:0<m):0<=dz n f a m:=by
 unfold dz;split
 ·omega
 ·exact Int.emod_nonneg _ aa
theorem jn {n:Nat} {f:Nat->AV} {a m:Int} (hm:0<m):dz n f a m<m:=by
 unfold dz;split
 ·omega
 ·exact Int.emod_lt_of_pos _ hm
theorem oS {ρ:Nat->Option Nat} {n:Nat} {f g:Nat->AV} {a b:Int} (h:f=g) (h2:a=b):cU ρ (jx n f a) (jx n g b):=by
 subst h h2
 exact⟨rfl,rfl,rfl,rfl,fun i hi=>aL rfl⟩
theorem aah {k n:Nat} {z:Nat->Int} {a m:Int} {o:au} (ho:∀ρ,cU ρ o (jx n (fun i=>.int .i64 (z i)) a)) (h:dr n (fun i=>.int .i64 (z i)) a) (h1:0<m) (h2:m<2^62) (K:Nat):
  aD P sw K [.ptr k 0 2 0 [],.int .i64 m] [(k,o)] ⟨.int .i64 (dz n (fun i=>.int .i64 (z i)) a m),[(k,jx n (fun i=>.int .i64 (z i)) (bP n a))],[]⟩:=by
 refine Eg hT afG hm acn rfl rfl aW ho 60 WE (fun _=>?_) K
 have h3:=h.lo
 have h4:=h.hi
 have h5:=h.len
 simp only[ah.all,aA,bh,bz]
 refine⟨⟨aa,aa⟩,fun hb=>⟨bN ?_,_,rfl,rfl,?_⟩,fun hb=>⟨⟨aa,aa⟩,?_⟩⟩
 ·unfold dz;rw[if_pos aa]
 ·exact oS rfl (by unfold bP;rw[if_pos aa])
 have e1:IntKind.i64.wrap (a+1)=a+1:=wrap_i64 aa aa
 have e2:IntKind.i64.wrap (a+1-1)=a:=by rw[wrap_i64 aa aa];omega
 rw[e1,e2]
 refine⟨⟨aa,aa,aa,h1,h2⟩,bN ?_,_,rfl,rfl,⟨rfl,rfl,rfl,rfl,fun i hi=>?_⟩⟩
 ·unfold dz;rw[if_neg aa];rfl
 ·rw[show i=0 by have:i<1:=hi;omega]
  show gP _ (.agg [.ak 1 n (fun i=>.int .i64 (z i)),.int .i64 (a+1)]) (.agg [.ak 1 n (fun i=>.int .i64 (z i)),.int .i64 (bP n a)])
  rw[show bP n a=a+1 by unfold bP;rw[if_neg aa]]
  exact aL rfl
def Js (k:Nat) (pre:aF):Option (Nat×(Nat->AV)×Int):=match pre with
 |[(k',o)]=>if k==k'&&!o.row&&o.wr&&o.es==2&&o.len==1 then match o.f 0 with
  |.agg [.ak 1 n f,.int .i64 a]=>some (n,f,a)
  |_=>none
  else none
 |_=>none
def jm (g:Nat->(Nat->AV)->Int->List AV->Option (AV×Int×List Prop)):Spec:=fun _ args pre=>match args with
 |.ptr k 0 2 0 []::l=>match Js k pre with
  |some (n,f,a)=>match g n f a l with
   |some (v,b,q)=>some ⟨v,[(k,jx n f b)],dr n f a::q⟩
   |none=>none
  |none=>none
 |_=>none
theorem agS {k:Nat} {pre:aF} {n:Nat} {f:Nat->AV} {a:Int} (h:Js k pre=some (n,f,a)):∃o,pre=[(k,o)]/\∀ρ,cU ρ o (jx n f a):=by
 unfold Js at h
 split at h
 ·rename_i k' o
  split at h
  ·rename_i hc
   simp only[Bool.and_eq_true,beq_iff_eq,Bool.not_eq_true']at hc
   obtain⟨⟨⟨⟨rfl,h2⟩,h3⟩,h4⟩,h5⟩:=hc
   split at h
   ·rename_i n' f' a' hf
    simp only[ax,Prod.mk.injEq]at h
    obtain⟨rfl,rfl,rfl⟩:=h
    refine⟨o,rfl,fun ρ=>?_⟩
    obtain⟨row,wr,es,len,g⟩:=o
    simp only at h2 h3 h4 h5 hf
    subst h2 h3 h4 h5
    refine jE rfl fun i hi=>?_
    rw[show i=0 by omega,hf]
    exact aL rfl
   ·simp at h
  ·simp at h
 ·simp at h
theorem wG {fid:FuncId} {g:Nat->(Nat->AV)->Int->List AV->Option (AV×Int×List Prop)}
  (h:∀{k n:Nat} {z:Nat->Int} {a:Int} {l:List AV} {v:AV} {b:Int} {q:List Prop} {o:au} (K:Nat),g n (fun i=>.int .i64 (z i)) a l=some (v,b,q)->(∀ρ,cU ρ o (jx n (fun i=>.int .i64 (z i)) a))->dr n (fun i=>.int .i64 (z i)) a->aA q->aD P fid K (.ptr k 0 2 0 []::l) [(k,o)] ⟨v,[(k,jx n (fun i=>.int .i64 (z i)) b)],[]⟩):∀K args pre r,jm g K args pre=some r->aD P fid K args pre r:=by
 intro K args pre r hs
 unfold jm at hs
 split at hs
 ·rename_i k l
  split at hs
  ·rename_i n f a hd
   split at hs
   ·rename_i v b q hv
    simp only[ax]at hs
    subst hs
    obtain⟨o,rfl,ho⟩:=agS hd
    intro need
    obtain⟨hd,hq⟩:=(eu (a:=[dr n f a]) (b:=q)).1 need
    have hd:dr n f a:=hd
    obtain⟨z,rfl⟩:∃z:Nat->Int,f=fun i=>.int .i64 (z i):=⟨fun i=>intOf (f i),funext fun i=>hd.ints i⟩
    exact h K hv ho hd hq trivial
   ·simp at hs
  ·simp at hs
 ·simp at hs
def uw (n:Nat) (f:Nat->AV) (a:Int) (l:List AV):Option (AV×Int×List Prop):=match l with
 |[.int .i64 m]=>some (.int .i64 (dz n f a m),bP n a,[0<m,m<2^62])
 |_=>none
theorem DX:∀K args pre r,jm uw K args pre=some r->aD P sw K args pre r:=by
 refine wG fun {k n z a l v b q o} K hg ho hd hq=>?_
 unfold uw at hg
 split at hg
 ·simp only[ax,Prod.mk.injEq]at hg
  obtain⟨rfl,rfl,rfl⟩:=hg
  exact aah ho hd hq.1 hq.2 K
 ·simp at hg
end Go.Am.B
