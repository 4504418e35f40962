/- brepkernelmade: Mod, Light, Roll, Part, Next, number, Number, Point, Map. -/
import Derived.Test.YtolopdkjjlfgjaaGreatB31
import Derived.Test.YtolopdkjjlfgjaaGreatZ2
set_option linter.unusedVariables false
namespace Go.Am.B
open Go Go.Am.N AV Proofs.Tryz IntKind
theorem aab:bu 45 f45:=bz func45
theorem Y9:bu 11 f11:=bz func11
theorem T6:bu 14 f14:=bz func14
theorem RM:bu 44 f44:=bz func44
abbrev j6 (n:Nat) (f:Nat->AV) (a:Int):ay:=⟨false,true,2,1,fun _=>.agg [.aq 1 n f,.int .i64 a]⟩
theorem QC {x m:Int}:cq T [] [9] 60 f45 (aG f45) ⟨aV 0 [.int .i64 x,.int .i64 m],[],0⟩=
  some (af.aj [m≠(0:Int)] (af.fork (decide (x.tmod m<0)) (af.leaf ak.ret [int .i64 (i64.wrap (x.tmod m+m))]) (af.leaf ak.ret [int .i64 (x.tmod m)]))):=ag
theorem Pv {n:Nat} {f:Nat->AV}:cq T [] [] 60 f11 (aG f11) ⟨aV 0 [.aq 1 n f],[],0⟩=
  some (af.leaf ak.ret [AV.bool (decide ((↑n:Int)<=500))]):=ag
theorem abf {n:Nat} {f:Nat->AV}:aH T [] [] 60 [2] [aG f14] ⟨aV 0 [.aq 1 n f],[],0⟩=some (.leaf .ret ([.ptr 12288 0 2 0 []],[(12288,j6 n f 0)])):=ag
theorem Yx {x m:Int} (h1:0<m) (h2:m<2^62) (K:Nat):aQ P 45 K [.int .i64 x,.int .i64 m] [] (aM (.int .i64 (x%m)) []):=by
 refine cA hT ct hm aab rfl bp rfl 60 QC (fun _=>?_) K []
 simp only[af.all,aA,bK,bO]
 have h3:=Int.tmod_lt_of_pos x h1
 have h4:=Int.lt_tmod_of_pos x h1
 have h5:=Int.emod_nonneg x (show m≠0 by omega)
 have h6:=Int.emod_lt_of_pos x h1
 have h7:=Int.tmod_eq_emod (a:=x) (b:=m)
 have h8:∀{v:Int},v<0->v=x%m-((if 0<=x\/m∣x then 0 else m.natAbs:Nat):Int)->v+m=x%m:=fun {v} g1 g2=>by
  by_cases h:0<=x\/m∣x
  ·rw[if_pos h]at g2;omega
  ·rw[if_neg h]at g2;omega
 have h9:∀{v:Int},¬v<0->v=x%m-((if 0<=x\/m∣x then 0 else m.natAbs:Nat):Int)->v=x%m:=fun {v} g1 g2=>by
  by_cases h:0<=x\/m∣x
  ·rw[if_pos h]at g2;omega
  ·rw[if_neg h]at g2;omega
 refine⟨aa,fun hb=>bV ?_,fun hb=>bV (h9 hb h7)⟩
 rw[wrap_i64 aa aa]
 exact h8 hb h7
def FN:Spec:=b7 fun l=>match l with
 |[.int .i64 x,.int .i64 m]=>some (aM (.int .i64 (x%m)) [0<m,m<2^62])
 |_=>none
def GM:bB:=[(45,FN)]
theorem I6:bA P FN 45:=by
 refine cP fun K args r hk hs _=>?_
 split at hs
 ·simp only[ax]at hs
  subst hs
  exact fun need=>Yx need.1 need.2 K trivial
 ·simp at hs
theorem aeI:bT P GM:=aN I6 ct
theorem Vo {n:Nat} {z:Nat->Int} {a m:Int}:zu T GM [14] 60 f44 (aG f44) ⟨aV 0 [.ptr 0 0 2 0 [],.int .i64 m],[(0,j6 n (fun i=>.int .i64 (z i)) a)],1⟩=
  let c4:Int:=i64.wrap (a+1);let c3:Prop:=0<1;let c1:AV:=agg [aq 1 n fun i=>int .i64 (z i),int .i64 a];let c2:Int:=i64.wrap (c4-1);some (af.aj [c3,c3] (af.fork (decide (a>=(↑n:Int))) (af.leaf ak.ret ([int .i64 (0:Int)],some (ay.mk false true 2 1 fun x=>c1))) (af.aj [c3,c3] (af.aj [c3,c3,(0:Int)<=c2/\c2.toNat<n,(0:Int)<m,m<2^62] (af.leaf ak.ret ([int .i64 (z c2.toNat%m)],some (ay.mk false true 2 1 fun j=>if(j==0)=true then agg (c1.kids.set 1 (eU (int .i64 c4)))else c1))))))):=ag
def intOf:AV->Int
 |.int _ n=>n
 |_=>0
def cJ (n:Nat) (f:Nat->AV) (a m:Int):Int:=if(n:Int)<=a then 0 else intOf (f a.toNat)%m
def bF (n:Nat) (a:Int):Int:=if(n:Int)<=a then a else a+1
structure dB (n:Nat) (f:Nat->AV) (a:Int):Prop where
 ints:∀i,f i=.int .i64 (intOf (f i))
 lo:0<=a
 hi:a<=n
 len:n<2^62
theorem dB.next {n:Nat} {f:Nat->AV} {a:Int} (h:dB n f a):dB n f (bF n a):=
 ⟨h.ints,by have:=h.lo;unfold bF;split<;>omega,by have:=h.hi;unfold bF;split<;>omega,h.len⟩
theorem jE {n:Nat} {f:Nat->AV} {a m:Int} (hm:0<m):0<=cJ n f a m:=by
 unfold cJ;split
 ·omega
 ·exact Int.emod_nonneg _ aa
theorem jF {n:Nat} {f:Nat->AV} {a m:Int} (hm:0<m):cJ n f a m<m:=by
 unfold cJ;split
 ·omega
 ·exact Int.emod_lt_of_pos _ hm
theorem uP {ρ:Nat->Option Nat} {n:Nat} {f g:Nat->AV} {a b:Int} (h:f=g) (h2:a=b):dG ρ (j6 n f a) (j6 n g b):=by
 subst h h2
 exact⟨rfl,rfl,rfl,rfl,fun i hi=>iu rfl⟩
theorem WQ {k n:Nat} {z:Nat->Int} {a m:Int} {o:ay} (ho:∀ρ,dG ρ o (j6 n (fun i=>.int .i64 (z i)) a)) (h:dB n (fun i=>.int .i64 (z i)) a) (h1:0<m) (h2:m<2^62) (K:Nat):
  aQ P 44 K [.ptr k 0 2 0 [],.int .i64 m] [(k,o)] ⟨.int .i64 (cJ n (fun i=>.int .i64 (z i)) a m),[(k,j6 n (fun i=>.int .i64 (z i)) (bF n a))],[]⟩:=by
 refine J9 hT aeI hm RM rfl rfl bp ho 60 Vo (fun _=>?_) K
 have h3:=h.lo
 have h4:=h.hi
 have h5:=h.len
 simp only[af.all,aA,bK,bO]
 refine⟨⟨aa,aa⟩,fun hb=>⟨bV ?_,_,rfl,rfl,?_⟩,fun hb=>⟨⟨aa,aa⟩,?_⟩⟩
 ·unfold cJ;rw[if_pos aa]
 ·exact uP rfl (by unfold bF;rw[if_pos aa])
 have e1:i64.wrap (a+1)=a+1:=wrap_i64 aa aa
 have e2:i64.wrap (a+1-1)=a:=by rw[wrap_i64 aa aa];omega
 rw[e1,e2]
 refine⟨⟨aa,aa,aa,h1,h2⟩,bV ?_,_,rfl,rfl,⟨rfl,rfl,rfl,rfl,fun i hi=>?_⟩⟩
 ·unfold cJ;rw[if_neg aa];rfl
 ·rw[show i=0 by have:i<1:=hi;omega]
  show ij _ (.agg [.aq 1 n (fun i=>.int .i64 (z i)),.int .i64 (a+1)]) (.agg [.aq 1 n (fun i=>.int .i64 (z i)),.int .i64 (bF n a)])
  rw[show bF n a=a+1 by unfold bF;rw[if_neg aa]]
  exact iu rfl
def Dt (k:Nat) (pre:aD):Option (Nat×(Nat->AV)×Int):=match pre with
 |[(k',o)]=>if k==k'&&!o.row&&o.wr&&o.es==2&&o.len==1 then match o.f 0 with
  |.agg [.aq 1 n f,.int .i64 a]=>some (n,f,a)
  |_=>none
  else none
 |_=>none
def mw (g:Nat->(Nat->AV)->Int->List AV->Option (AV×Int×List Prop)):Spec:=fun _ args pre=>match args with
 |.ptr k 0 2 0 []::l=>match Dt k pre with
  |some (n,f,a)=>match g n f a l with
   |some (v,b,q)=>some ⟨v,[(k,j6 n f b)],dB n f a::q⟩
   |none=>none
  |none=>none
 |_=>none
theorem Zc {k:Nat} {pre:aD} {n:Nat} {f:Nat->AV} {a:Int} (h:Dt k pre=some (n,f,a)):∃o,pre=[(k,o)]/\∀ρ,dG ρ o (j6 n f a):=by
 unfold Dt at h
 split at h
 ·rename_i k' o
  split at h
  ·rename_i hc
   simp only[Bool.and_eq_true,beq_iff_eq,Bool.not_eq_true']at hc
   obtain⟨⟨⟨⟨rfl,h2⟩,h3⟩,h4⟩,h5⟩:=hc
   split at h
   ·rename_i n' f' a' hf
    simp only[ax,Prod.mk.injEq]at h
    obtain⟨rfl,rfl,rfl⟩:=h
    refine⟨o,rfl,fun ρ=>?_⟩
    obtain⟨row,wr,es,len,g⟩:=o
    simp only at h2 h3 h4 h5 hf
    subst h2 h3 h4 h5
    refine iH rfl fun i hi=>?_
    rw[show i=0 by omega,hf]
    exact iu rfl
   ·simp at h
  ·simp at h
 ·simp at h
theorem zI {fid:FuncId} {g:Nat->(Nat->AV)->Int->List AV->Option (AV×Int×List Prop)}
  (h:∀{k n:Nat} {z:Nat->Int} {a:Int} {l:List AV} {v:AV} {b:Int} {q:List Prop} {o:ay} (K:Nat),g n (fun i=>.int .i64 (z i)) a l=some (v,b,q)->(∀ρ,dG ρ o (j6 n (fun i=>.int .i64 (z i)) a))->dB n (fun i=>.int .i64 (z i)) a->aA q->aQ P fid K (.ptr k 0 2 0 []::l) [(k,o)] ⟨v,[(k,j6 n (fun i=>.int .i64 (z i)) b)],[]⟩):bA P (mw g) fid:=by
 intro K args pre r hs
 unfold mw at hs
 split at hs
 ·rename_i k l
  split at hs
  ·rename_i n f a hd
   split at hs
   ·rename_i v b q hv
    simp only[ax]at hs
    subst hs
    obtain⟨o,rfl,ho⟩:=Zc hd
    intro need
    obtain⟨hd,hq⟩:=(gj (a:=[dB n f a]) (b:=q)).1 need
    have hd:dB n f a:=hd
    obtain⟨z,rfl⟩:∃z:Nat->Int,f=fun i=>.int .i64 (z i):=⟨fun i=>intOf (f i),funext fun i=>hd.ints i⟩
    exact h K hv ho hd hq trivial
   ·simp at hs
  ·simp at hs
 ·simp at hs
def xl (n:Nat) (f:Nat->AV) (a:Int) (l:List AV):Option (AV×Int×List Prop):=match l with
 |[.int .i64 m]=>some (.int .i64 (cJ n f a m),bF n a,[0<m,m<2^62])
 |_=>none
theorem Ct:bA P (mw xl) 44:=by
 refine zI fun {k n z a l v b q o} K hg ho hd hq=>?_
 unfold xl at hg
 split at hg
 ·simp only[ax,Prod.mk.injEq]at hg
  obtain⟨rfl,rfl,rfl⟩:=hg
  exact WQ ho hd hq.1 hq.2 K
 ·simp at hg
end Go.Am.B
