/- brepkernelmade: Mod, Light, Roll, Part, Next, number, Number, Point, Map. -/
import Derived.Test.YtgfjdngnneoeoaaGreatB31
import Derived.Test.YtgfjdngnneoeoaaGreatZ2
set_option linter.unusedVariables false
namespace Go.Am.B
open Go Go.Am.N AV Proofs.Tryz IntKind
theorem ahN:aX 67 f67:=aM func67
theorem ail:aX 5 f5:=aM func5
theorem aaB:aX 8 f8:=aM func8
theorem X9:aX 25 f25:=aM func25
abbrev iR (n:Nat) (f:Nat->AV) (a:Int):az:=⟨false,true,2,1,fun _=>.agg [.ak 1 n f,.int .i64 a]⟩
theorem Vb {x m:Int}:bF T [] [9] 60 f67 (aF f67) ⟨aS 0 [.int .i64 x,.int .i64 m],[],0⟩=
  some (ag.aj [m≠(0:Int)] (ag.fork (decide (x.tmod m<0)) (ag.leaf aq.ret [int .i64 (i64.wrap (x.tmod m+m))]) (ag.leaf aq.ret [int .i64 (x.tmod m)]))):=ah
theorem ZD {n:Nat} {f:Nat->AV}:bF T [] [] 60 f5 (aF f5) ⟨aS 0 [.ak 1 n f],[],0⟩=
  some (ag.leaf aq.ret [AV.bool (decide ((↑n:Int)<=500))]):=ah
theorem ab2 {n:Nat} {f:Nat->AV}:aL T [] [] 60 [2] [aF f8] ⟨aS 0 [.ak 1 n f],[],0⟩=some (.leaf .ret ([.ptr 12288 0 2 0 []],[(12288,iR n f 0)])):=ah
theorem abH {x m:Int} (h1:0<m) (h2:m<2^62) (K:Nat):aN P 67 K [.int .i64 x,.int .i64 m] [] (aH (.int .i64 (x%m)) []):=by
 refine bM hT bD hm ahN rfl aW rfl 60 Vb (fun _=>?_) K []
 simp only[ag.all,au,bz,bG]
 have h3:=Int.tmod_lt_of_pos x h1
 have h4:=Int.lt_tmod_of_pos x h1
 have h5:=Int.emod_nonneg x (show m≠0 by omega)
 have h6:=Int.emod_lt_of_pos x h1
 have h7:=Int.tmod_eq_emod (a:=x) (b:=m)
 have h8:∀{v:Int},v<0->v=x%m-((if 0<=x\/m∣x then 0 else m.natAbs:Nat):Int)->v+m=x%m:=fun {v} g1 g2=>by
  by_cases h:0<=x\/m∣x
  ·rw[if_pos h]at g2;omega
  ·rw[if_neg h]at g2;omega
 have h9:∀{v:Int},¬v<0->v=x%m-((if 0<=x\/m∣x then 0 else m.natAbs:Nat):Int)->v=x%m:=fun {v} g1 g2=>by
  by_cases h:0<=x\/m∣x
  ·rw[if_pos h]at g2;omega
  ·rw[if_neg h]at g2;omega
 refine⟨aa,fun hb=>bW ?_,fun hb=>bW (h9 hb h7)⟩
 rw[wrap_i64 aa aa]
 exact h8 hb h7
def Fi:Spec:=bX fun l=>match l with
 |[.int .i64 x,.int .i64 m]=>some (aH (.int .i64 (x%m)) [0<m,m<2^62])
 |_=>none
def GM:aV:=[(67,Fi)]
theorem aeW:bf P Fi 67:=by
 refine cM fun K args r hk hs _=>?_
 split at hs
 ·simp only[ax]at hs
  subst hs
  exact fun need=>abH need.1 need.2 K trivial
 ·simp at hs
theorem afA:bg P GM:=aE aeW bD
theorem ahn {n:Nat} {z:Nat->Int} {a m:Int}:p7 T GM [14] 60 f25 (aF f25) ⟨aS 0 [.ptr 0 0 2 0 [],.int .i64 m],[(0,iR n (fun i=>.int .i64 (z i)) a)],1⟩=
  let c4:Int:=i64.wrap (a+1);let c3:Prop:=0<1;let c1:AV:=agg [ak 1 n fun i=>int .i64 (z i),int .i64 a];let c2:Int:=i64.wrap (c4-1);some (ag.aj [c3,c3] (ag.fork (decide (a>=(↑n:Int))) (ag.leaf aq.ret ([int .i64 (0:Int)],some (az.mk false true 2 1 fun x=>c1))) (ag.aj [c3,c3] (ag.aj [c3,c3,(0:Int)<=c2/\c2.toNat<n,(0:Int)<m,m<2^62] (ag.leaf aq.ret ([int .i64 (z c2.toNat%m)],some (az.mk false true 2 1 fun j=>if(j==0)=true then agg (c1.kids.set 1 (bE (int .i64 c4)))else c1))))))):=ah
def intOf:AV->Int
 |.int _ n=>n
 |_=>0
def dU (n:Nat) (f:Nat->AV) (a m:Int):Int:=if(n:Int)<=a then 0 else intOf (f a.toNat)%m
def b9 (n:Nat) (a:Int):Int:=if(n:Int)<=a then a else a+1
structure dK (n:Nat) (f:Nat->AV) (a:Int):Prop where
 ints:∀i,f i=.int .i64 (intOf (f i))
 lo:0<=a
 hi:a<=n
 len:n<2^62
theorem dK.next {n:Nat} {f:Nat->AV} {a:Int} (h:dK n f a):dK n f (b9 n a):=
 ⟨h.ints,by have:=h.lo;unfold b9;split<;>omega,by have:=h.hi;unfold b9;split<;>omega,h.len⟩
theorem qj {n:Nat} {f:Nat->AV} {a m:Int} (hm:0<m):0<=dU n f a m:=by
 unfold dU;split
 ·omega
 ·exact Int.emod_nonneg _ aa
theorem qh {n:Nat} {f:Nat->AV} {a m:Int} (hm:0<m):dU n f a m<m:=by
 unfold dU;split
 ·omega
 ·exact Int.emod_lt_of_pos _ hm
theorem qM {ρ:Nat->Option Nat} {n:Nat} {f g:Nat->AV} {a b:Int} (h:f=g) (h2:a=b):eA ρ (iR n f a) (iR n g b):=by
 subst h h2
 exact⟨rfl,rfl,rfl,rfl,fun i hi=>gu rfl⟩
theorem aaF {k n:Nat} {z:Nat->Int} {a m:Int} {o:az} (ho:∀ρ,eA ρ o (iR n (fun i=>.int .i64 (z i)) a)) (h:dK n (fun i=>.int .i64 (z i)) a) (h1:0<m) (h2:m<2^62) (K:Nat):
  aN P 25 K [.ptr k 0 2 0 [],.int .i64 m] [(k,o)] ⟨.int .i64 (dU n (fun i=>.int .i64 (z i)) a m),[(k,iR n (fun i=>.int .i64 (z i)) (b9 n a))],[]⟩:=by
 refine uH hT afA hm X9 rfl rfl aW ho 60 ahn (fun _=>?_) K
 have h3:=h.lo
 have h4:=h.hi
 have h5:=h.len
 simp only[ag.all,au,bz,bG]
 refine⟨⟨aa,aa⟩,fun hb=>⟨bW ?_,_,rfl,rfl,?_⟩,fun hb=>⟨⟨aa,aa⟩,?_⟩⟩
 ·unfold dU;rw[if_pos aa]
 ·exact qM rfl (by unfold b9;rw[if_pos aa])
 have e1:i64.wrap (a+1)=a+1:=wrap_i64 aa aa
 have e2:i64.wrap (a+1-1)=a:=by rw[wrap_i64 aa aa];omega
 rw[e1,e2]
 refine⟨⟨aa,aa,aa,h1,h2⟩,bW ?_,_,rfl,rfl,⟨rfl,rfl,rfl,rfl,fun i hi=>?_⟩⟩
 ·unfold dU;rw[if_neg aa];rfl
 ·rw[show i=0 by have:i<1:=hi;omega]
  show gV _ (.agg [.ak 1 n (fun i=>.int .i64 (z i)),.int .i64 (a+1)]) (.agg [.ak 1 n (fun i=>.int .i64 (z i)),.int .i64 (b9 n a)])
  rw[show b9 n a=a+1 by unfold b9;rw[if_neg aa]]
  exact gu rfl
def Ek (k:Nat) (pre:aD):Option (Nat×(Nat->AV)×Int):=match pre with
 |[(k',o)]=>if k==k'&&!o.row&&o.wr&&o.es==2&&o.len==1 then match o.f 0 with
  |.agg [.ak 1 n f,.int .i64 a]=>some (n,f,a)
  |_=>none
  else none
 |_=>none
def kW (g:Nat->(Nat->AV)->Int->List AV->Option (AV×Int×List Prop)):Spec:=fun _ args pre=>match args with
 |.ptr k 0 2 0 []::l=>match Ek k pre with
  |some (n,f,a)=>match g n f a l with
   |some (v,b,q)=>some ⟨v,[(k,iR n f b)],dK n f a::q⟩
   |none=>none
  |none=>none
 |_=>none
theorem SU {k:Nat} {pre:aD} {n:Nat} {f:Nat->AV} {a:Int} (h:Ek k pre=some (n,f,a)):∃o,pre=[(k,o)]/\∀ρ,eA ρ o (iR n f a):=by
 unfold Ek at h
 split at h
 ·rename_i k' o
  split at h
  ·rename_i hc
   simp only[Bool.and_eq_true,beq_iff_eq,Bool.not_eq_true']at hc
   obtain⟨⟨⟨⟨rfl,h2⟩,h3⟩,h4⟩,h5⟩:=hc
   split at h
   ·rename_i n' f' a' hf
    simp only[ax,Prod.mk.injEq]at h
    obtain⟨rfl,rfl,rfl⟩:=h
    refine⟨o,rfl,fun ρ=>?_⟩
    obtain⟨row,wr,es,len,g⟩:=o
    simp only at h2 h3 h4 h5 hf
    subst h2 h3 h4 h5
    refine jm rfl fun i hi=>?_
    rw[show i=0 by omega,hf]
    exact gu rfl
   ·simp at h
  ·simp at h
 ·simp at h
theorem xw {fid:FuncId} {g:Nat->(Nat->AV)->Int->List AV->Option (AV×Int×List Prop)}
  (h:∀{k n:Nat} {z:Nat->Int} {a:Int} {l:List AV} {v:AV} {b:Int} {q:List Prop} {o:az} (K:Nat),g n (fun i=>.int .i64 (z i)) a l=some (v,b,q)->(∀ρ,eA ρ o (iR n (fun i=>.int .i64 (z i)) a))->dK n (fun i=>.int .i64 (z i)) a->au q->aN P fid K (.ptr k 0 2 0 []::l) [(k,o)] ⟨v,[(k,iR n (fun i=>.int .i64 (z i)) b)],[]⟩):bf P (kW g) fid:=by
 intro K args pre r hs
 unfold kW at hs
 split at hs
 ·rename_i k l
  split at hs
  ·rename_i n f a hd
   split at hs
   ·rename_i v b q hv
    simp only[ax]at hs
    subst hs
    obtain⟨o,rfl,ho⟩:=SU hd
    intro need
    obtain⟨hd,hq⟩:=(dN (a:=[dK n f a]) (b:=q)).1 need
    have hd:dK n f a:=hd
    obtain⟨z,rfl⟩:∃z:Nat->Int,f=fun i=>.int .i64 (z i):=⟨fun i=>intOf (f i),funext fun i=>hd.ints i⟩
    exact h K hv ho hd hq trivial
   ·simp at hs
  ·simp at hs
 ·simp at hs
def zI (n:Nat) (f:Nat->AV) (a:Int) (l:List AV):Option (AV×Int×List Prop):=match l with
 |[.int .i64 m]=>some (.int .i64 (dU n f a m),b9 n a,[0<m,m<2^62])
 |_=>none
theorem LV:bf P (kW zI) 25:=by
 refine xw fun {k n z a l v b q o} K hg ho hd hq=>?_
 unfold zI at hg
 split at hg
 ·simp only[ax,Prod.mk.injEq]at hg
  obtain⟨rfl,rfl,rfl⟩:=hg
  exact aaF ho hd hq.1 hq.2 K
 ·simp at hg
end Go.Am.B
