/- brepkernelmade: Mod, Light, Roll, Part, Next, number, Number, Point, Map. -/
import Derived.Test.YtolopdkjjlfgjaaGreatB31
import Derived.Test.YtolopdkjjlfgjaaGreatZ2
set_option linter.unusedVariables false
namespace Go.Am.B
open Go Go.Am.N AV Proofs.Tryz IntKind
theorem TY:aX 45 f45:=aZ func45
theorem TD:aX 11 f11:=aZ func11
theorem Ti:aX 14 f14:=aZ func14
theorem aaq:aX 44 f44:=aZ func44
abbrev js (n:Nat) (f:Nat->AV) (a:Int):ax:=⟨false,true,2,1,fun _=>.agg [.ak 1 n f,.int .i64 a]⟩
theorem aeq {x m:Int}:bR T [] [9] 60 f45 (aH f45) ⟨aT 0 [.int .i64 x,.int .i64 m],[],0⟩=
  some (af.aj [m≠(0:Int)] (af.fork (decide (x.tmod m<0)) (af.leaf aq.ret [int .i64 (i64.wrap (x.tmod m+m))]) (af.leaf aq.ret [int .i64 (x.tmod m)]))):=ah
theorem VC {n:Nat} {f:Nat->AV}:bR T [] [] 60 f11 (aH f11) ⟨aT 0 [.ak 1 n f],[],0⟩=
  some (af.leaf aq.ret [AV.bool (decide ((↑n:Int)<=500))]):=ah
theorem SD {n:Nat} {f:Nat->AV}:aG T [] [] 60 [2] [aH f14] ⟨aT 0 [.ak 1 n f],[],0⟩=some (.leaf .ret ([.ptr 12288 0 2 0 []],[(12288,js n f 0)])):=ah
theorem Tk {x m:Int} (h1:0<m) (h2:m<2^62) (K:Nat):aP P 45 K [.int .i64 x,.int .i64 m] [] (aK (.int .i64 (x%m)) []):=by
 refine bZ hT b9 hm TY rfl aW rfl 60 aeq (fun _=>?_) K []
 simp only[af.all,aA,bw,bB]
 have h3:=Int.tmod_lt_of_pos x h1
 have h4:=Int.lt_tmod_of_pos x h1
 have h5:=Int.emod_nonneg x (show m≠0 by omega)
 have h6:=Int.emod_lt_of_pos x h1
 have h7:=Int.tmod_eq_emod (a:=x) (b:=m)
 have h8:∀{v:Int},v<0->v=x%m-((if 0<=x\/m∣x then 0 else m.natAbs:Nat):Int)->v+m=x%m:=fun {v} g1 g2=>by
  by_cases h:0<=x\/m∣x
  ·rw[if_pos h]at g2;omega
  ·rw[if_neg h]at g2;omega
 have h9:∀{v:Int},¬v<0->v=x%m-((if 0<=x\/m∣x then 0 else m.natAbs:Nat):Int)->v=x%m:=fun {v} g1 g2=>by
  by_cases h:0<=x\/m∣x
  ·rw[if_pos h]at g2;omega
  ·rw[if_neg h]at g2;omega
 refine⟨aa,fun hb=>bN ?_,fun hb=>bN (h9 hb h7)⟩
 rw[wrap_i64 aa aa]
 exact h8 hb h7
def Cq:Spec:=bU fun l=>match l with
 |[.int .i64 x,.int .i64 m]=>some (aK (.int .i64 (x%m)) [0<m,m<2^62])
 |_=>none
def GM:bh:=[(45,Cq)]
theorem Mc:bf P Cq 45:=by
 refine cJ fun K args r hk hs _=>?_
 split at hs
 ·simp only[ay]at hs
  subst hs
  exact fun need=>Tk need.1 need.2 K trivial
 ·simp at hs
theorem ab2:bI P GM:=aL Mc b9
theorem ac5 {n:Nat} {z:Nat->Int} {a m:Int}:AJ T GM [14] 60 f44 (aH f44) ⟨aT 0 [.ptr 0 0 2 0 [],.int .i64 m],[(0,js n (fun i=>.int .i64 (z i)) a)],1⟩=
  let c4:Int:=i64.wrap (a+1);let c3:Prop:=0<1;let c1:AV:=agg [ak 1 n fun i=>int .i64 (z i),int .i64 a];let c2:Int:=i64.wrap (c4-1);some (af.aj [c3,c3] (af.fork (decide (a>=(↑n:Int))) (af.leaf aq.ret ([int .i64 (0:Int)],some (ax.mk false true 2 1 fun x=>c1))) (af.aj [c3,c3] (af.aj [c3,c3,(0:Int)<=c2/\c2.toNat<n,(0:Int)<m,m<2^62] (af.leaf aq.ret ([int .i64 (z c2.toNat%m)],some (ax.mk false true 2 1 fun j=>if(j==0)=true then agg (c1.kids.set 1 (dN (int .i64 c4)))else c1))))))):=ah
def intOf:AV->Int
 |.int _ n=>n
 |_=>0
def cC (n:Nat) (f:Nat->AV) (a m:Int):Int:=if(n:Int)<=a then 0 else intOf (f a.toNat)%m
def bC (n:Nat) (a:Int):Int:=if(n:Int)<=a then a else a+1
structure cU (n:Nat) (f:Nat->AV) (a:Int):Prop where
 ints:∀i,f i=.int .i64 (intOf (f i))
 lo:0<=a
 hi:a<=n
 len:n<2^62
theorem cU.next {n:Nat} {f:Nat->AV} {a:Int} (h:cU n f a):cU n f (bC n a):=
 ⟨h.ints,by have:=h.lo;unfold bC;split<;>omega,by have:=h.hi;unfold bC;split<;>omega,h.len⟩
theorem iS {n:Nat} {f:Nat->AV} {a m:Int} (hm:0<m):0<=cC n f a m:=by
 unfold cC;split
 ·omega
 ·exact Int.emod_nonneg _ aa
theorem iP {n:Nat} {f:Nat->AV} {a m:Int} (hm:0<m):cC n f a m<m:=by
 unfold cC;split
 ·omega
 ·exact Int.emod_lt_of_pos _ hm
theorem rS {ρ:Nat->Option Nat} {n:Nat} {f g:Nat->AV} {a b:Int} (h:f=g) (h2:a=b):dr ρ (js n f a) (js n g b):=by
 subst h h2
 exact⟨rfl,rfl,rfl,rfl,fun i hi=>gp rfl⟩
theorem aeM {k n:Nat} {z:Nat->Int} {a m:Int} {o:ax} (ho:∀ρ,dr ρ o (js n (fun i=>.int .i64 (z i)) a)) (h:cU n (fun i=>.int .i64 (z i)) a) (h1:0<m) (h2:m<2^62) (K:Nat):
  aP P 44 K [.ptr k 0 2 0 [],.int .i64 m] [(k,o)] ⟨.int .i64 (cC n (fun i=>.int .i64 (z i)) a m),[(k,js n (fun i=>.int .i64 (z i)) (bC n a))],[]⟩:=by
 refine Mx hT ab2 hm aaq rfl rfl aW ho 60 ac5 (fun _=>?_) K
 have h3:=h.lo
 have h4:=h.hi
 have h5:=h.len
 simp only[af.all,aA,bw,bB]
 refine⟨⟨aa,aa⟩,fun hb=>⟨bN ?_,_,rfl,rfl,?_⟩,fun hb=>⟨⟨aa,aa⟩,?_⟩⟩
 ·unfold cC;rw[if_pos aa]
 ·exact rS rfl (by unfold bC;rw[if_pos aa])
 have e1:i64.wrap (a+1)=a+1:=wrap_i64 aa aa
 have e2:i64.wrap (a+1-1)=a:=by rw[wrap_i64 aa aa];omega
 rw[e1,e2]
 refine⟨⟨aa,aa,aa,h1,h2⟩,bN ?_,_,rfl,rfl,⟨rfl,rfl,rfl,rfl,fun i hi=>?_⟩⟩
 ·unfold cC;rw[if_neg aa];rfl
 ·rw[show i=0 by have:i<1:=hi;omega]
  show gi _ (.agg [.ak 1 n (fun i=>.int .i64 (z i)),.int .i64 (a+1)]) (.agg [.ak 1 n (fun i=>.int .i64 (z i)),.int .i64 (bC n a)])
  rw[show bC n a=a+1 by unfold bC;rw[if_neg aa]]
  exact gp rfl
def EC (k:Nat) (pre:aE):Option (Nat×(Nat->AV)×Int):=match pre with
 |[(k',o)]=>if k==k'&&!o.row&&o.wr&&o.es==2&&o.len==1 then match o.f 0 with
  |.agg [.ak 1 n f,.int .i64 a]=>some (n,f,a)
  |_=>none
  else none
 |_=>none
def kS (g:Nat->(Nat->AV)->Int->List AV->Option (AV×Int×List Prop)):Spec:=fun _ args pre=>match args with
 |.ptr k 0 2 0 []::l=>match EC k pre with
  |some (n,f,a)=>match g n f a l with
   |some (v,b,q)=>some ⟨v,[(k,js n f b)],cU n f a::q⟩
   |none=>none
  |none=>none
 |_=>none
theorem T1 {k:Nat} {pre:aE} {n:Nat} {f:Nat->AV} {a:Int} (h:EC k pre=some (n,f,a)):∃o,pre=[(k,o)]/\∀ρ,dr ρ o (js n f a):=by
 unfold EC at h
 split at h
 ·rename_i k' o
  split at h
  ·rename_i hc
   simp only[Bool.and_eq_true,beq_iff_eq,Bool.not_eq_true']at hc
   obtain⟨⟨⟨⟨rfl,h2⟩,h3⟩,h4⟩,h5⟩:=hc
   split at h
   ·rename_i n' f' a' hf
    simp only[ay,Prod.mk.injEq]at h
    obtain⟨rfl,rfl,rfl⟩:=h
    refine⟨o,rfl,fun ρ=>?_⟩
    obtain⟨row,wr,es,len,g⟩:=o
    simp only at h2 h3 h4 h5 hf
    subst h2 h3 h4 h5
    refine gk rfl fun i hi=>?_
    rw[show i=0 by omega,hf]
    exact gp rfl
   ·simp at h
  ·simp at h
 ·simp at h
theorem yJ {fid:FuncId} {g:Nat->(Nat->AV)->Int->List AV->Option (AV×Int×List Prop)}
  (h:∀{k n:Nat} {z:Nat->Int} {a:Int} {l:List AV} {v:AV} {b:Int} {q:List Prop} {o:ax} (K:Nat),g n (fun i=>.int .i64 (z i)) a l=some (v,b,q)->(∀ρ,dr ρ o (js n (fun i=>.int .i64 (z i)) a))->cU n (fun i=>.int .i64 (z i)) a->aA q->aP P fid K (.ptr k 0 2 0 []::l) [(k,o)] ⟨v,[(k,js n (fun i=>.int .i64 (z i)) b)],[]⟩):bf P (kS g) fid:=by
 intro K args pre r hs
 unfold kS at hs
 split at hs
 ·rename_i k l
  split at hs
  ·rename_i n f a hd
   split at hs
   ·rename_i v b q hv
    simp only[ay]at hs
    subst hs
    obtain⟨o,rfl,ho⟩:=T1 hd
    intro need
    obtain⟨hd,hq⟩:=(fI (a:=[cU n f a]) (b:=q)).1 need
    have hd:cU n f a:=hd
    obtain⟨z,rfl⟩:∃z:Nat->Int,f=fun i=>.int .i64 (z i):=⟨fun i=>intOf (f i),funext fun i=>hd.ints i⟩
    exact h K hv ho hd hq trivial
   ·simp at hs
  ·simp at hs
 ·simp at hs
def vY (n:Nat) (f:Nat->AV) (a:Int) (l:List AV):Option (AV×Int×List Prop):=match l with
 |[.int .i64 m]=>some (.int .i64 (cC n f a m),bC n a,[0<m,m<2^62])
 |_=>none
theorem Cf:bf P (kS vY) 44:=by
 refine yJ fun {k n z a l v b q o} K hg ho hd hq=>?_
 unfold vY at hg
 split at hg
 ·simp only[ay,Prod.mk.injEq]at hg
  obtain⟨rfl,rfl,rfl⟩:=hg
  exact aeM ho hd hq.1 hq.2 K
 ·simp at hg
end Go.Am.B
