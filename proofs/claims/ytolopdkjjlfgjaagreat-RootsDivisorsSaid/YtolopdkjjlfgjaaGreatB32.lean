/- brepkernelmade: Mod, Light, Roll, Part, Next, number, Number, Point, Map. -/
import Derived.Test.YtolopdkjjlfgjaaGreatB31
import Derived.Test.YtolopdkjjlfgjaaGreatZ2
set_option linter.unusedVariables false
namespace Go.Am.B
open Go Go.Am.N AV Proofs.Tryz IntKind
theorem ZD:aX 45 f45:=aY func45
theorem XI:aX 11 f11:=aY func11
theorem YK:aX 14 f14:=aY func14
theorem Ob:aX 44 f44:=aY func44
abbrev jM (n:Nat) (f:Nat->AV) (a:Int):ay:=⟨false,true,2,1,fun _=>.agg [.ak 1 n f,.int .i64 a]⟩
theorem Yp {x m:Int}:bT T [] [9] 60 f45 (aG f45) ⟨aS 0 [.int .i64 x,.int .i64 m],[],0⟩=
  some (af.aj [m≠(0:Int)] (af.fork (decide (x.tmod m<0)) (af.leaf aq.ret [int .i64 (i64.wrap (x.tmod m+m))]) (af.leaf aq.ret [int .i64 (x.tmod m)]))):=ag
theorem ZA {n:Nat} {f:Nat->AV}:bT T [] [] 60 f11 (aG f11) ⟨aS 0 [.ak 1 n f],[],0⟩=
  some (af.leaf aq.ret [AV.bool (decide ((↑n:Int)<=500))]):=ag
theorem VT {n:Nat} {f:Nat->AV}:aH T [] [] 60 [2] [aG f14] ⟨aS 0 [.ak 1 n f],[],0⟩=some (.leaf .ret ([.ptr 12288 0 2 0 []],[(12288,jM n f 0)])):=ag
theorem aec {x m:Int} (h1:0<m) (h2:m<2^62) (K:Nat):aO P 45 K [.int .i64 x,.int .i64 m] [] (aJ (.int .i64 (x%m)) []):=by
 refine bW hT bU hm ZD rfl aW rfl 60 Yp (fun _=>?_) K []
 simp only[af.all,az,bz,bE]
 have h3:=Int.tmod_lt_of_pos x h1
 have h4:=Int.lt_tmod_of_pos x h1
 have h5:=Int.emod_nonneg x (show m≠0 by omega)
 have h6:=Int.emod_lt_of_pos x h1
 have h7:=Int.tmod_eq_emod (a:=x) (b:=m)
 have h8:∀{v:Int},v<0->v=x%m-((if 0<=x\/m∣x then 0 else m.natAbs:Nat):Int)->v+m=x%m:=fun {v} g1 g2=>by
  by_cases h:0<=x\/m∣x
  ·rw[if_pos h]at g2;omega
  ·rw[if_neg h]at g2;omega
 have h9:∀{v:Int},¬v<0->v=x%m-((if 0<=x\/m∣x then 0 else m.natAbs:Nat):Int)->v=x%m:=fun {v} g1 g2=>by
  by_cases h:0<=x\/m∣x
  ·rw[if_pos h]at g2;omega
  ·rw[if_neg h]at g2;omega
 refine⟨aa,fun hb=>bQ ?_,fun hb=>bQ (h9 hb h7)⟩
 rw[wrap_i64 aa aa]
 exact h8 hb h7
def BO:Spec:=bR fun l=>match l with
 |[.int .i64 x,.int .i64 m]=>some (aJ (.int .i64 (x%m)) [0<m,m<2^62])
 |_=>none
def GM:bg:=[(45,BO)]
theorem F0:bf P BO 45:=by
 refine cE fun K args r hk hs _=>?_
 split at hs
 ·simp only[ax]at hs
  subst hs
  exact fun need=>aec need.1 need.2 K trivial
 ·simp at hs
theorem UA:bK P GM:=aK F0 bU
theorem V9 {n:Nat} {z:Nat->Int} {a m:Int}:AN T GM [14] 60 f44 (aG f44) ⟨aS 0 [.ptr 0 0 2 0 [],.int .i64 m],[(0,jM n (fun i=>.int .i64 (z i)) a)],1⟩=
  let c4:Int:=i64.wrap (a+1);let c3:Prop:=0<1;let c1:AV:=agg [ak 1 n fun i=>int .i64 (z i),int .i64 a];let c2:Int:=i64.wrap (c4-1);some (af.aj [c3,c3] (af.fork (decide (a>=(↑n:Int))) (af.leaf aq.ret ([int .i64 (0:Int)],some (ay.mk false true 2 1 fun x=>c1))) (af.aj [c3,c3] (af.aj [c3,c3,(0:Int)<=c2/\c2.toNat<n,(0:Int)<m,m<2^62] (af.leaf aq.ret ([int .i64 (z c2.toNat%m)],some (ay.mk false true 2 1 fun j=>if(j==0)=true then agg (c1.kids.set 1 (eC (int .i64 c4)))else c1))))))):=ag
def intOf:AV->Int
 |.int _ n=>n
 |_=>0
def cz (n:Nat) (f:Nat->AV) (a m:Int):Int:=if(n:Int)<=a then 0 else intOf (f a.toNat)%m
def bA (n:Nat) (a:Int):Int:=if(n:Int)<=a then a else a+1
structure cL (n:Nat) (f:Nat->AV) (a:Int):Prop where
 ints:∀i,f i=.int .i64 (intOf (f i))
 lo:0<=a
 hi:a<=n
 len:n<2^62
theorem cL.next {n:Nat} {f:Nat->AV} {a:Int} (h:cL n f a):cL n f (bA n a):=
 ⟨h.ints,by have:=h.lo;unfold bA;split<;>omega,by have:=h.hi;unfold bA;split<;>omega,h.len⟩
theorem iY {n:Nat} {f:Nat->AV} {a m:Int} (hm:0<m):0<=cz n f a m:=by
 unfold cz;split
 ·omega
 ·exact Int.emod_nonneg _ aa
theorem ja {n:Nat} {f:Nat->AV} {a m:Int} (hm:0<m):cz n f a m<m:=by
 unfold cz;split
 ·omega
 ·exact Int.emod_lt_of_pos _ hm
theorem sw {ρ:Nat->Option Nat} {n:Nat} {f g:Nat->AV} {a b:Int} (h:f=g) (h2:a=b):cW ρ (jM n f a) (jM n g b):=by
 subst h h2
 exact⟨rfl,rfl,rfl,rfl,fun i hi=>gy rfl⟩
theorem Vo {k n:Nat} {z:Nat->Int} {a m:Int} {o:ay} (ho:∀ρ,cW ρ o (jM n (fun i=>.int .i64 (z i)) a)) (h:cL n (fun i=>.int .i64 (z i)) a) (h1:0<m) (h2:m<2^62) (K:Nat):
  aO P 44 K [.ptr k 0 2 0 [],.int .i64 m] [(k,o)] ⟨.int .i64 (cz n (fun i=>.int .i64 (z i)) a m),[(k,jM n (fun i=>.int .i64 (z i)) (bA n a))],[]⟩:=by
 refine Lj hT UA hm Ob rfl rfl aW ho 60 V9 (fun _=>?_) K
 have h3:=h.lo
 have h4:=h.hi
 have h5:=h.len
 simp only[af.all,az,bz,bE]
 refine⟨⟨aa,aa⟩,fun hb=>⟨bQ ?_,_,rfl,rfl,?_⟩,fun hb=>⟨⟨aa,aa⟩,?_⟩⟩
 ·unfold cz;rw[if_pos aa]
 ·exact sw rfl (by unfold bA;rw[if_pos aa])
 have e1:i64.wrap (a+1)=a+1:=wrap_i64 aa aa
 have e2:i64.wrap (a+1-1)=a:=by rw[wrap_i64 aa aa];omega
 rw[e1,e2]
 refine⟨⟨aa,aa,aa,h1,h2⟩,bQ ?_,_,rfl,rfl,⟨rfl,rfl,rfl,rfl,fun i hi=>?_⟩⟩
 ·unfold cz;rw[if_neg aa];rfl
 ·rw[show i=0 by have:i<1:=hi;omega]
  show gG _ (.agg [.ak 1 n (fun i=>.int .i64 (z i)),.int .i64 (a+1)]) (.agg [.ak 1 n (fun i=>.int .i64 (z i)),.int .i64 (bA n a)])
  rw[show bA n a=a+1 by unfold bA;rw[if_neg aa]]
  exact gy rfl
def Dk (k:Nat) (pre:aE):Option (Nat×(Nat->AV)×Int):=match pre with
 |[(k',o)]=>if k==k'&&!o.row&&o.wr&&o.es==2&&o.len==1 then match o.f 0 with
  |.agg [.ak 1 n f,.int .i64 a]=>some (n,f,a)
  |_=>none
  else none
 |_=>none
def kW (g:Nat->(Nat->AV)->Int->List AV->Option (AV×Int×List Prop)):Spec:=fun _ args pre=>match args with
 |.ptr k 0 2 0 []::l=>match Dk k pre with
  |some (n,f,a)=>match g n f a l with
   |some (v,b,q)=>some ⟨v,[(k,jM n f b)],cL n f a::q⟩
   |none=>none
  |none=>none
 |_=>none
theorem P4 {k:Nat} {pre:aE} {n:Nat} {f:Nat->AV} {a:Int} (h:Dk k pre=some (n,f,a)):∃o,pre=[(k,o)]/\∀ρ,cW ρ o (jM n f a):=by
 unfold Dk at h
 split at h
 ·rename_i k' o
  split at h
  ·rename_i hc
   simp only[Bool.and_eq_true,beq_iff_eq,Bool.not_eq_true']at hc
   obtain⟨⟨⟨⟨rfl,h2⟩,h3⟩,h4⟩,h5⟩:=hc
   split at h
   ·rename_i n' f' a' hf
    simp only[ax,Prod.mk.injEq]at h
    obtain⟨rfl,rfl,rfl⟩:=h
    refine⟨o,rfl,fun ρ=>?_⟩
    obtain⟨row,wr,es,len,g⟩:=o
    simp only at h2 h3 h4 h5 hf
    subst h2 h3 h4 h5
    refine gM rfl fun i hi=>?_
    rw[show i=0 by omega,hf]
    exact gy rfl
   ·simp at h
  ·simp at h
 ·simp at h
theorem zS {fid:FuncId} {g:Nat->(Nat->AV)->Int->List AV->Option (AV×Int×List Prop)}
  (h:∀{k n:Nat} {z:Nat->Int} {a:Int} {l:List AV} {v:AV} {b:Int} {q:List Prop} {o:ay} (K:Nat),g n (fun i=>.int .i64 (z i)) a l=some (v,b,q)->(∀ρ,cW ρ o (jM n (fun i=>.int .i64 (z i)) a))->cL n (fun i=>.int .i64 (z i)) a->az q->aO P fid K (.ptr k 0 2 0 []::l) [(k,o)] ⟨v,[(k,jM n (fun i=>.int .i64 (z i)) b)],[]⟩):bf P (kW g) fid:=by
 intro K args pre r hs
 unfold kW at hs
 split at hs
 ·rename_i k l
  split at hs
  ·rename_i n f a hd
   split at hs
   ·rename_i v b q hv
    simp only[ax]at hs
    subst hs
    obtain⟨o,rfl,ho⟩:=P4 hd
    intro need
    obtain⟨hd,hq⟩:=(fo (a:=[cL n f a]) (b:=q)).1 need
    have hd:cL n f a:=hd
    obtain⟨z,rfl⟩:∃z:Nat->Int,f=fun i=>.int .i64 (z i):=⟨fun i=>intOf (f i),funext fun i=>hd.ints i⟩
    exact h K hv ho hd hq trivial
   ·simp at hs
  ·simp at hs
 ·simp at hs
def ur (n:Nat) (f:Nat->AV) (a:Int) (l:List AV):Option (AV×Int×List Prop):=match l with
 |[.int .i64 m]=>some (.int .i64 (cz n f a m),bA n a,[0<m,m<2^62])
 |_=>none
theorem CP:bf P (kW ur) 44:=by
 refine zS fun {k n z a l v b q o} K hg ho hd hq=>?_
 unfold ur at hg
 split at hg
 ·simp only[ax,Prod.mk.injEq]at hg
  obtain⟨rfl,rfl,rfl⟩:=hg
  exact Vo ho hd hq.1 hq.2 K
 ·simp at hg
end Go.Am.B
