/- brepkernelmade: Mod, Light, Roll, Part, Next, number, Number, Point, Map. -/
import Derived.Test.YtolopdkjjlfgjaaGreatB31
import Derived.Test.YtolopdkjjlfgjaaGreatZ2
set_option linter.unusedVariables false
namespace Go.Am.B
open Go Go.Am.N AV Proofs.Tryz IntKind
theorem agO:bf 45 f45:=bg func45
theorem WY:bf 11 f11:=bg func11
theorem TZ:bf 14 f14:=bg func14
theorem TR:bf 44 f44:=bg func44
abbrev j9 (n:Nat) (f:Nat->AV) (a:Int):au:=⟨false,true,2,1,fun _=>.agg [.ak 1 n f,.int .i64 a]⟩
theorem ahW {x m:Int}:b9 T [] [9] 60 f45 (aH f45) ⟨aU 0 [.int .i64 x,.int .i64 m],[],0⟩=
  some (ag.aj [m≠(0:Int)] (ag.fork (decide (x.tmod m<0)) (ag.leaf aq.ret [int .i64 (i64.wrap (x.tmod m+m))]) (ag.leaf aq.ret [int .i64 (x.tmod m)]))):=ah
theorem aaN {n:Nat} {f:Nat->AV}:b9 T [] [] 60 f11 (aH f11) ⟨aU 0 [.ak 1 n f],[],0⟩=
  some (ag.leaf aq.ret [AV.bool (decide ((↑n:Int)<=500))]):=ah
theorem Vd {n:Nat} {f:Nat->AV}:aI T [] [] 60 [2] [aH f14] ⟨aU 0 [.ak 1 n f],[],0⟩=some (.leaf .ret ([.ptr 12288 0 2 0 []],[(12288,j9 n f 0)])):=ah
theorem ahD {x m:Int} (h1:0<m) (h2:m<2^62) (K:Nat):aQ P 45 K [.int .i64 x,.int .i64 m] [] (aL (.int .i64 (x%m)) []):=by
 refine ck hT cz hm agO rfl aX rfl 60 ahW (fun _=>?_) K []
 simp only[ag.all,az,bB,bD]
 have h3:=Int.tmod_lt_of_pos x h1
 have h4:=Int.lt_tmod_of_pos x h1
 have h5:=Int.emod_nonneg x (show m≠0 by omega)
 have h6:=Int.emod_lt_of_pos x h1
 have h7:=Int.tmod_eq_emod (a:=x) (b:=m)
 have h8:∀{v:Int},v<0->v=x%m-((if 0<=x\/m∣x then 0 else m.natAbs:Nat):Int)->v+m=x%m:=fun {v} g1 g2=>by
  by_cases h:0<=x\/m∣x
  ·rw[if_pos h]at g2;omega
  ·rw[if_neg h]at g2;omega
 have h9:∀{v:Int},¬v<0->v=x%m-((if 0<=x\/m∣x then 0 else m.natAbs:Nat):Int)->v=x%m:=fun {v} g1 g2=>by
  by_cases h:0<=x\/m∣x
  ·rw[if_pos h]at g2;omega
  ·rw[if_neg h]at g2;omega
 refine⟨aa,fun hb=>cw ?_,fun hb=>cw (h9 hb h7)⟩
 rw[wrap_i64 aa aa]
 exact h8 hb h7
def Cx:Spec:=cu fun l=>match l with
 |[.int .i64 x,.int .i64 m]=>some (aL (.int .i64 (x%m)) [0<m,m<2^62])
 |_=>none
def GM:bk:=[(45,Cx)]
theorem Iq:aY P Cx 45:=by
 refine cW fun K args r hk hs _=>?_
 split at hs
 ·simp only[ay]at hs
  subst hs
  exact fun need=>ahD need.1 need.2 K trivial
 ·simp at hs
theorem W7:bR P GM:=aJ Iq cz
theorem akj {n:Nat} {z:Nat->Int} {a m:Int}:zL T GM [14] 60 f44 (aH f44) ⟨aU 0 [.ptr 0 0 2 0 [],.int .i64 m],[(0,j9 n (fun i=>.int .i64 (z i)) a)],1⟩=
  let c4:Int:=i64.wrap (a+1);let c3:Prop:=0<1;let c1:AV:=agg [ak 1 n fun i=>int .i64 (z i),int .i64 a];let c2:Int:=i64.wrap (c4-1);some (ag.aj [c3,c3] (ag.fork (decide (a>=(↑n:Int))) (ag.leaf aq.ret ([int .i64 (0:Int)],some (au.mk false true 2 1 fun x=>c1))) (ag.aj [c3,c3] (ag.aj [c3,c3,(0:Int)<=c2/\c2.toNat<n,(0:Int)<m,m<2^62] (ag.leaf aq.ret ([int .i64 (z c2.toNat%m)],some (au.mk false true 2 1 fun j=>if(j==0)=true then agg (c1.kids.set 1 (de (int .i64 c4)))else c1))))))):=ah
def intOf:AV->Int
 |.int _ n=>n
 |_=>0
def cT (n:Nat) (f:Nat->AV) (a m:Int):Int:=if(n:Int)<=a then 0 else intOf (f a.toNat)%m
def bP (n:Nat) (a:Int):Int:=if(n:Int)<=a then a else a+1
structure dh (n:Nat) (f:Nat->AV) (a:Int):Prop where
 ints:∀i,f i=.int .i64 (intOf (f i))
 lo:0<=a
 hi:a<=n
 len:n<2^62
theorem dh.next {n:Nat} {f:Nat->AV} {a:Int} (h:dh n f a):dh n f (bP n a):=
 ⟨h.ints,by have:=h.lo;unfold bP;split<;>omega,by have:=h.hi;unfold bP;split<;>omega,h.len⟩
theorem jI {n:Nat} {f:Nat->AV} {a m:Int} (hm:0<m):0<=cT n f a m:=by
 unfold cT;split
 ·omega
 ·exact Int.emod_nonneg _ aa
theorem jW {n:Nat} {f:Nat->AV} {a m:Int} (hm:0<m):cT n f a m<m:=by
 unfold cT;split
 ·omega
 ·exact Int.emod_lt_of_pos _ hm
theorem tA {ρ:Nat->Option Nat} {n:Nat} {f g:Nat->AV} {a b:Int} (h:f=g) (h2:a=b):dU ρ (j9 n f a) (j9 n g b):=by
 subst h h2
 exact⟨rfl,rfl,rfl,rfl,fun i hi=>fD rfl⟩
theorem Sh {k n:Nat} {z:Nat->Int} {a m:Int} {o:au} (ho:∀ρ,dU ρ o (j9 n (fun i=>.int .i64 (z i)) a)) (h:dh n (fun i=>.int .i64 (z i)) a) (h1:0<m) (h2:m<2^62) (K:Nat):
  aQ P 44 K [.ptr k 0 2 0 [],.int .i64 m] [(k,o)] ⟨.int .i64 (cT n (fun i=>.int .i64 (z i)) a m),[(k,j9 n (fun i=>.int .i64 (z i)) (bP n a))],[]⟩:=by
 refine DZ hT W7 hm TR rfl rfl aX ho 60 akj (fun _=>?_) K
 have h3:=h.lo
 have h4:=h.hi
 have h5:=h.len
 simp only[ag.all,az,bB,bD]
 refine⟨⟨aa,aa⟩,fun hb=>⟨cw ?_,_,rfl,rfl,?_⟩,fun hb=>⟨⟨aa,aa⟩,?_⟩⟩
 ·unfold cT;rw[if_pos aa]
 ·exact tA rfl (by unfold bP;rw[if_pos aa])
 have e1:i64.wrap (a+1)=a+1:=wrap_i64 aa aa
 have e2:i64.wrap (a+1-1)=a:=by rw[wrap_i64 aa aa];omega
 rw[e1,e2]
 refine⟨⟨aa,aa,aa,h1,h2⟩,cw ?_,_,rfl,rfl,⟨rfl,rfl,rfl,rfl,fun i hi=>?_⟩⟩
 ·unfold cT;rw[if_neg aa];rfl
 ·rw[show i=0 by have:i<1:=hi;omega]
  show iu _ (.agg [.ak 1 n (fun i=>.int .i64 (z i)),.int .i64 (a+1)]) (.agg [.ak 1 n (fun i=>.int .i64 (z i)),.int .i64 (bP n a)])
  rw[show bP n a=a+1 by unfold bP;rw[if_neg aa]]
  exact fD rfl
def HY (k:Nat) (pre:aE):Option (Nat×(Nat->AV)×Int):=match pre with
 |[(k',o)]=>if k==k'&&!o.row&&o.wr&&o.es==2&&o.len==1 then match o.f 0 with
  |.agg [.ak 1 n f,.int .i64 a]=>some (n,f,a)
  |_=>none
  else none
 |_=>none
def kj (g:Nat->(Nat->AV)->Int->List AV->Option (AV×Int×List Prop)):Spec:=fun _ args pre=>match args with
 |.ptr k 0 2 0 []::l=>match HY k pre with
  |some (n,f,a)=>match g n f a l with
   |some (v,b,q)=>some ⟨v,[(k,j9 n f b)],dh n f a::q⟩
   |none=>none
  |none=>none
 |_=>none
theorem aew {k:Nat} {pre:aE} {n:Nat} {f:Nat->AV} {a:Int} (h:HY k pre=some (n,f,a)):∃o,pre=[(k,o)]/\∀ρ,dU ρ o (j9 n f a):=by
 unfold HY at h
 split at h
 ·rename_i k' o
  split at h
  ·rename_i hc
   simp only[Bool.and_eq_true,beq_iff_eq,Bool.not_eq_true']at hc
   obtain⟨⟨⟨⟨rfl,h2⟩,h3⟩,h4⟩,h5⟩:=hc
   split at h
   ·rename_i n' f' a' hf
    simp only[ay,Prod.mk.injEq]at h
    obtain⟨rfl,rfl,rfl⟩:=h
    refine⟨o,rfl,fun ρ=>?_⟩
    obtain⟨row,wr,es,len,g⟩:=o
    simp only at h2 h3 h4 h5 hf
    subst h2 h3 h4 h5
    refine hH rfl fun i hi=>?_
    rw[show i=0 by omega,hf]
    exact fD rfl
   ·simp at h
  ·simp at h
 ·simp at h
theorem yZ {fid:FuncId} {g:Nat->(Nat->AV)->Int->List AV->Option (AV×Int×List Prop)}
  (h:∀{k n:Nat} {z:Nat->Int} {a:Int} {l:List AV} {v:AV} {b:Int} {q:List Prop} {o:au} (K:Nat),g n (fun i=>.int .i64 (z i)) a l=some (v,b,q)->(∀ρ,dU ρ o (j9 n (fun i=>.int .i64 (z i)) a))->dh n (fun i=>.int .i64 (z i)) a->az q->aQ P fid K (.ptr k 0 2 0 []::l) [(k,o)] ⟨v,[(k,j9 n (fun i=>.int .i64 (z i)) b)],[]⟩):aY P (kj g) fid:=by
 intro K args pre r hs
 unfold kj at hs
 split at hs
 ·rename_i k l
  split at hs
  ·rename_i n f a hd
   split at hs
   ·rename_i v b q hv
    simp only[ay]at hs
    subst hs
    obtain⟨o,rfl,ho⟩:=aew hd
    intro need
    obtain⟨hd,hq⟩:=(gJ (a:=[dh n f a]) (b:=q)).1 need
    have hd:dh n f a:=hd
    obtain⟨z,rfl⟩:∃z:Nat->Int,f=fun i=>.int .i64 (z i):=⟨fun i=>intOf (f i),funext fun i=>hd.ints i⟩
    exact h K hv ho hd hq trivial
   ·simp at hs
  ·simp at hs
 ·simp at hs
def vW (n:Nat) (f:Nat->AV) (a:Int) (l:List AV):Option (AV×Int×List Prop):=match l with
 |[.int .i64 m]=>some (.int .i64 (cT n f a m),bP n a,[0<m,m<2^62])
 |_=>none
theorem Bk:aY P (kj vW) 44:=by
 refine yZ fun {k n z a l v b q o} K hg ho hd hq=>?_
 unfold vW at hg
 split at hg
 ·simp only[ay,Prod.mk.injEq]at hg
  obtain⟨rfl,rfl,rfl⟩:=hg
  exact Sh ho hd hq.1 hq.2 K
 ·simp at hg
end Go.Am.B
