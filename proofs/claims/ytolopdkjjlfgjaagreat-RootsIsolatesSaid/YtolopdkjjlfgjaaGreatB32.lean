/- brepkernelmade: Mod, Light, Roll, Part, Next, number, Number, Point, Map. -/
import Derived.Test.YtolopdkjjlfgjaaGreatB31
import Derived.Test.YtolopdkjjlfgjaaGreatZ2
set_option linter.unusedVariables false
namespace Go.Am.B
open Go Go.Am.N AV Proofs.Tryz IntKind
theorem Zi:br 45 f45:=bu func45
theorem adY:br 11 f11:=bu func11
theorem ae9:br 14 f14:=bu func14
theorem Za:br 44 f44:=bu func44
abbrev ko (n:Nat) (f:Nat->AV) (a:Int):ax:=⟨false,true,2,1,fun _=>.agg [.ak 1 n f,.int .i64 a]⟩
theorem Rx {x m:Int}:cB T [] [9] 60 f45 (aI f45) ⟨aU 0 [.int .i64 x,.int .i64 m],[],0⟩=
  some (af.aj [m≠(0:Int)] (af.fork (decide (x.tmod m<0)) (af.leaf aq.ret [int .i64 (i64.wrap (x.tmod m+m))]) (af.leaf aq.ret [int .i64 (x.tmod m)]))):=ah
theorem SJ {n:Nat} {f:Nat->AV}:cB T [] [] 60 f11 (aI f11) ⟨aU 0 [.ak 1 n f],[],0⟩=
  some (af.leaf aq.ret [AV.bool (decide ((↑n:Int)<=500))]):=ah
theorem Z5 {n:Nat} {f:Nat->AV}:aH T [] [] 60 [2] [aI f14] ⟨aU 0 [.ak 1 n f],[],0⟩=some (.leaf .ret ([.ptr 12288 0 2 0 []],[(12288,ko n f 0)])):=ah
theorem Yl {x m:Int} (h1:0<m) (h2:m<2^62) (K:Nat):aS P 45 K [.int .i64 x,.int .i64 m] [] (aM (.int .i64 (x%m)) []):=by
 refine cF hT cG hm Zi rfl aZ rfl 60 Rx (fun _=>?_) K []
 simp only[af.all,az,bD,bI]
 have h3:=Int.tmod_lt_of_pos x h1
 have h4:=Int.lt_tmod_of_pos x h1
 have h5:=Int.emod_nonneg x (show m≠0 by omega)
 have h6:=Int.emod_lt_of_pos x h1
 have h7:=Int.tmod_eq_emod (a:=x) (b:=m)
 have h8:∀{v:Int},v<0->v=x%m-((if 0<=x\/m∣x then 0 else m.natAbs:Nat):Int)->v+m=x%m:=fun {v} g1 g2=>by
  by_cases h:0<=x\/m∣x
  ·rw[if_pos h]at g2;omega
  ·rw[if_neg h]at g2;omega
 have h9:∀{v:Int},¬v<0->v=x%m-((if 0<=x\/m∣x then 0 else m.natAbs:Nat):Int)->v=x%m:=fun {v} g1 g2=>by
  by_cases h:0<=x\/m∣x
  ·rw[if_pos h]at g2;omega
  ·rw[if_neg h]at g2;omega
 refine⟨aa,fun hb=>cq ?_,fun hb=>cq (h9 hb h7)⟩
 rw[wrap_i64 aa aa]
 exact h8 hb h7
def E9:Spec:=cw fun l=>match l with
 |[.int .i64 x,.int .i64 m]=>some (aM (.int .i64 (x%m)) [0<m,m<2^62])
 |_=>none
def GM:bz:=[(45,E9)]
theorem IQ:bf P E9 45:=by
 refine dc fun K args r hk hs _=>?_
 split at hs
 ·simp only[ay]at hs
  subst hs
  exact fun need=>Yl need.1 need.2 K trivial
 ·simp at hs
theorem Ri:bU P GM:=aL IQ cG
theorem Rq {n:Nat} {z:Nat->Int} {a m:Int}:BO T GM [14] 60 f44 (aI f44) ⟨aU 0 [.ptr 0 0 2 0 [],.int .i64 m],[(0,ko n (fun i=>.int .i64 (z i)) a)],1⟩=
  let c4:Int:=i64.wrap (a+1);let c3:Prop:=0<1;let c1:AV:=agg [ak 1 n fun i=>int .i64 (z i),int .i64 a];let c2:Int:=i64.wrap (c4-1);some (af.aj [c3,c3] (af.fork (decide (a>=(↑n:Int))) (af.leaf aq.ret ([int .i64 (0:Int)],some (ax.mk false true 2 1 fun x=>c1))) (af.aj [c3,c3] (af.aj [c3,c3,(0:Int)<=c2/\c2.toNat<n,(0:Int)<m,m<2^62] (af.leaf aq.ret ([int .i64 (z c2.toNat%m)],some (ax.mk false true 2 1 fun j=>if(j==0)=true then agg (c1.kids.set 1 (eC (int .i64 c4)))else c1))))))):=ah
def intOf:AV->Int
 |.int _ n=>n
 |_=>0
def cU (n:Nat) (f:Nat->AV) (a m:Int):Int:=if(n:Int)<=a then 0 else intOf (f a.toNat)%m
def bM (n:Nat) (a:Int):Int:=if(n:Int)<=a then a else a+1
structure dN (n:Nat) (f:Nat->AV) (a:Int):Prop where
 ints:∀i,f i=.int .i64 (intOf (f i))
 lo:0<=a
 hi:a<=n
 len:n<2^62
theorem dN.next {n:Nat} {f:Nat->AV} {a:Int} (h:dN n f a):dN n f (bM n a):=
 ⟨h.ints,by have:=h.lo;unfold bM;split<;>omega,by have:=h.hi;unfold bM;split<;>omega,h.len⟩
theorem jM {n:Nat} {f:Nat->AV} {a m:Int} (hm:0<m):0<=cU n f a m:=by
 unfold cU;split
 ·omega
 ·exact Int.emod_nonneg _ aa
theorem jL {n:Nat} {f:Nat->AV} {a m:Int} (hm:0<m):cU n f a m<m:=by
 unfold cU;split
 ·omega
 ·exact Int.emod_lt_of_pos _ hm
theorem wB {ρ:Nat->Option Nat} {n:Nat} {f g:Nat->AV} {a b:Int} (h:f=g) (h2:a=b):dL ρ (ko n f a) (ko n g b):=by
 subst h h2
 exact⟨rfl,rfl,rfl,rfl,fun i hi=>fh rfl⟩
theorem U7 {k n:Nat} {z:Nat->Int} {a m:Int} {o:ax} (ho:∀ρ,dL ρ o (ko n (fun i=>.int .i64 (z i)) a)) (h:dN n (fun i=>.int .i64 (z i)) a) (h1:0<m) (h2:m<2^62) (K:Nat):
  aS P 44 K [.ptr k 0 2 0 [],.int .i64 m] [(k,o)] ⟨.int .i64 (cU n (fun i=>.int .i64 (z i)) a m),[(k,ko n (fun i=>.int .i64 (z i)) (bM n a))],[]⟩:=by
 refine JM hT Ri hm Za rfl rfl aZ ho 60 Rq (fun _=>?_) K
 have h3:=h.lo
 have h4:=h.hi
 have h5:=h.len
 simp only[af.all,az,bD,bI]
 refine⟨⟨aa,aa⟩,fun hb=>⟨cq ?_,_,rfl,rfl,?_⟩,fun hb=>⟨⟨aa,aa⟩,?_⟩⟩
 ·unfold cU;rw[if_pos aa]
 ·exact wB rfl (by unfold bM;rw[if_pos aa])
 have e1:i64.wrap (a+1)=a+1:=wrap_i64 aa aa
 have e2:i64.wrap (a+1-1)=a:=by rw[wrap_i64 aa aa];omega
 rw[e1,e2]
 refine⟨⟨aa,aa,aa,h1,h2⟩,cq ?_,_,rfl,rfl,⟨rfl,rfl,rfl,rfl,fun i hi=>?_⟩⟩
 ·unfold cU;rw[if_neg aa];rfl
 ·rw[show i=0 by have:i<1:=hi;omega]
  show gX _ (.agg [.ak 1 n (fun i=>.int .i64 (z i)),.int .i64 (a+1)]) (.agg [.ak 1 n (fun i=>.int .i64 (z i)),.int .i64 (bM n a)])
  rw[show bM n a=a+1 by unfold bM;rw[if_neg aa]]
  exact fh rfl
def FA (k:Nat) (pre:aE):Option (Nat×(Nat->AV)×Int):=match pre with
 |[(k',o)]=>if k==k'&&!o.row&&o.wr&&o.es==2&&o.len==1 then match o.f 0 with
  |.agg [.ak 1 n f,.int .i64 a]=>some (n,f,a)
  |_=>none
  else none
 |_=>none
def mH (g:Nat->(Nat->AV)->Int->List AV->Option (AV×Int×List Prop)):Spec:=fun _ args pre=>match args with
 |.ptr k 0 2 0 []::l=>match FA k pre with
  |some (n,f,a)=>match g n f a l with
   |some (v,b,q)=>some ⟨v,[(k,ko n f b)],dN n f a::q⟩
   |none=>none
  |none=>none
 |_=>none
theorem ael {k:Nat} {pre:aE} {n:Nat} {f:Nat->AV} {a:Int} (h:FA k pre=some (n,f,a)):∃o,pre=[(k,o)]/\∀ρ,dL ρ o (ko n f a):=by
 unfold FA at h
 split at h
 ·rename_i k' o
  split at h
  ·rename_i hc
   simp only[Bool.and_eq_true,beq_iff_eq,Bool.not_eq_true']at hc
   obtain⟨⟨⟨⟨rfl,h2⟩,h3⟩,h4⟩,h5⟩:=hc
   split at h
   ·rename_i n' f' a' hf
    simp only[ay,Prod.mk.injEq]at h
    obtain⟨rfl,rfl,rfl⟩:=h
    refine⟨o,rfl,fun ρ=>?_⟩
    obtain⟨row,wr,es,len,g⟩:=o
    simp only at h2 h3 h4 h5 hf
    subst h2 h3 h4 h5
    refine ia rfl fun i hi=>?_
    rw[show i=0 by omega,hf]
    exact fh rfl
   ·simp at h
  ·simp at h
 ·simp at h
theorem C4 {fid:FuncId} {g:Nat->(Nat->AV)->Int->List AV->Option (AV×Int×List Prop)}
  (h:∀{k n:Nat} {z:Nat->Int} {a:Int} {l:List AV} {v:AV} {b:Int} {q:List Prop} {o:ax} (K:Nat),g n (fun i=>.int .i64 (z i)) a l=some (v,b,q)->(∀ρ,dL ρ o (ko n (fun i=>.int .i64 (z i)) a))->dN n (fun i=>.int .i64 (z i)) a->az q->aS P fid K (.ptr k 0 2 0 []::l) [(k,o)] ⟨v,[(k,ko n (fun i=>.int .i64 (z i)) b)],[]⟩):bf P (mH g) fid:=by
 intro K args pre r hs
 unfold mH at hs
 split at hs
 ·rename_i k l
  split at hs
  ·rename_i n f a hd
   split at hs
   ·rename_i v b q hv
    simp only[ay]at hs
    subst hs
    obtain⟨o,rfl,ho⟩:=ael hd
    intro need
    obtain⟨hd,hq⟩:=(gB (a:=[dN n f a]) (b:=q)).1 need
    have hd:dN n f a:=hd
    obtain⟨z,rfl⟩:∃z:Nat->Int,f=fun i=>.int .i64 (z i):=⟨fun i=>intOf (f i),funext fun i=>hd.ints i⟩
    exact h K hv ho hd hq trivial
   ·simp at hs
  ·simp at hs
 ·simp at hs
def yo (n:Nat) (f:Nat->AV) (a:Int) (l:List AV):Option (AV×Int×List Prop):=match l with
 |[.int .i64 m]=>some (.int .i64 (cU n f a m),bM n a,[0<m,m<2^62])
 |_=>none
theorem Ey:bf P (mH yo) 44:=by
 refine C4 fun {k n z a l v b q o} K hg ho hd hq=>?_
 unfold yo at hg
 split at hg
 ·simp only[ay,Prod.mk.injEq]at hg
  obtain⟨rfl,rfl,rfl⟩:=hg
  exact U7 ho hd hq.1 hq.2 K
 ·simp at hg
end Go.Am.B
