/- brepkernelmade: Mod, Light, Roll, Part, Next, number, Number, Point, Map. -/
import Derived.Test.YtppeigelbecpbaaGreatB31
import Derived.Test.YtppeigelbecpbaaGreatZ2
set_option linter.unusedVariables false
namespace Go.Am.B
open Go Go.Am.N AV
theorem aak:aO P o9 vQ (aq vQ):=aP Uk (by kernel_rfl) (by kernel_rfl) (by kernel_rfl)
theorem P8:aO P Bv s6 (aq s6):=aP U4 (by kernel_rfl) (by kernel_rfl) (by kernel_rfl)
theorem Sl:aO P A1 zu (aq zu):=aP OJ (by kernel_rfl) (by kernel_rfl) (by kernel_rfl)
theorem RE:aO P mI x3 (aq x3):=aP Q0 (by kernel_rfl) (by kernel_rfl) (by kernel_rfl)
abbrev gY (n:Nat) (f:Nat→AV) (a:Int):ah:=⟨false,true,2,1,fun _=>.agg [.ag 1 n f,.int .i64 a]⟩
theorem ad6 {x m:Int}:bu T [] [9] 60 vQ (aq vQ) ⟨aM 0 [.int .i64 x,.int .i64 m],[],0⟩=
  some (aa.af [m≠(0:Int)] (aa.fork (decide (x.tmod m<(0:Int))) (aa.leaf aj.ret [int IntKind.i64 (IntKind.i64.wrap (x.tmod m+m))]) (aa.leaf aj.ret [int IntKind.i64 (x.tmod m)]))):=by kernel_rfl
theorem WV {n:Nat} {f:Nat→AV}:bu T [] [] 60 s6 (aq s6) ⟨aM 0 [.ag 1 n f],[],0⟩=
  some (aa.leaf aj.ret [AV.bool (decide ((↑n:Int)≤(500:Int)))]):=by kernel_rfl
theorem afu {n:Nat} {f:Nat→AV}:aG T [] [] 60 [2] [aq zu] ⟨aM 0 [.ag 1 n f],[],0⟩=some (.leaf .ret ([.ptr 12288 0 2 0 []],[(12288,gY n f 0)])):=by kernel_rfl
theorem abl {x m:Int} (h1:0<m) (h2:m<2^62) (K:Nat):az P o9 K [.int .i64 x,.int .i64 m] [] (aF (.int .i64 (x%m)) []):=by
 refine bC hT aX hm aak rfl (of_decide_eq_true (by kernel_rfl)) rfl 60 ad6 (fun _=>?_) K []
 simp only[aa.all,ax,decide_eq_true_eq,decide_eq_false_iff_not]
 have h3:=Int.tmod_lt_of_pos x h1
 have h4:=Int.lt_tmod_of_pos x h1
 have h5:=Int.emod_nonneg x (show m≠0 by omega)
 have h6:=Int.emod_lt_of_pos x h1
 have h7:=Int.tmod_eq_emod (a:=x) (b:=m)
 have h8:∀{v:Int},v<0→v=x%m-((if 0≤x∨m∣x then 0 else m.natAbs:Nat):Int)→v+m=x%m:=fun {v} g1 g2=>by
  by_cases h:0≤x∨m∣x
  ·rw[if_pos h]at g2;omega
  ·rw[if_neg h]at g2;omega
 have h9:∀{v:Int},¬v<0→v=x%m-((if 0≤x∨m∣x then 0 else m.natAbs:Nat):Int)→v=x%m:=fun {v} g1 g2=>by
  by_cases h:0≤x∨m∣x
  ·rw[if_pos h]at g2;omega
  ·rw[if_neg h]at g2;omega
 refine⟨by omega,fun hb=>br ?_,fun hb=>br (h9 hb h7)⟩
 rw[wrap_i64 (by omega) (by omega)]
 exact h8 hb h7
def zy:Spec:=bA fun l=>match l with
 |[.int .i64 x,.int .i64 m]=>some (aF (.int .i64 (x%m)) [0<m,m<2^62])
 |_=>none
def GM:aS:=[(o9,zy)]
theorem BF:∀K args pre r,zy K args pre=some r→az P o9 K args pre r:=by
 refine bS fun K args r hk hs _=>?_
 split at hs
 ·simp only[Option.some.injEq]at hs
  subst hs
  exact fun need=>abl need.1 need.2 K trivial
 ·simp at hs
theorem afL:aW P GM:=aD BF aX
theorem WI {n:Nat} {z:Nat→Int} {a m:Int}:qH T GM [14] 60 x3 (aq x3) ⟨aM 0 [.ptr 0 0 2 0 [],.int .i64 m],[(0,gY n (fun i=>.int .i64 (z i)) a)],1⟩=
  let c4:Int:=IntKind.i64.wrap (a+(1:Int));let c3:Prop:=0<1;let c1:AV:=agg [ag 1 n fun i↦int IntKind.i64 (z i),int IntKind.i64 a];let c2:Int:=IntKind.i64.wrap (c4-(1:Int));some (aa.af [c3,c3] (aa.fork (decide (a≥(↑n:Int))) (aa.leaf aj.ret ([int IntKind.i64 (0:Int)],some (ah.mk false true 2 1 fun x↦c1))) (aa.af [c3,c3] (aa.af [c3,c3,(0:Int)≤c2∧c2.toNat<n,(0:Int)<m,m<(2:Int)^62] (aa.leaf aj.ret ([int IntKind.i64 (z c2.toNat%m)],some (ah.mk false true 2 1 fun j↦if(j==0)=true then agg (c1.kids.set 1 (bh (int IntKind.i64 c4)))else c1))))))):=by kernel_rfl
def intOf:AV→Int
 |.int _ n=>n
 |_=>0
def cy (n:Nat) (f:Nat→AV) (a m:Int):Int:=if(n:Int)≤a then 0 else intOf (f a.toNat)%m
def aR (n:Nat) (a:Int):Int:=if(n:Int)≤a then a else a+1
structure cB (n:Nat) (f:Nat→AV) (a:Int):Prop where
 ints:∀i,f i=.int .i64 (intOf (f i))
 lo:0≤a
 hi:a≤n
 len:n<2^62
theorem cB.next {n:Nat} {f:Nat→AV} {a:Int} (h:cB n f a):cB n f (aR n a):=
 ⟨h.ints,by have:=h.lo;unfold aR;split<;>omega,by have:=h.hi;unfold aR;split<;>omega,h.len⟩
theorem g7 {n:Nat} {f:Nat→AV} {a m:Int} (hm:0<m):0≤cy n f a m:=by
 unfold cy;split
 ·omega
 ·exact Int.emod_nonneg _ (by omega)
theorem iz {n:Nat} {f:Nat→AV} {a m:Int} (hm:0<m):cy n f a m<m:=by
 unfold cy;split
 ·omega
 ·exact Int.emod_lt_of_pos _ hm
theorem lC {ρ:Nat→Option Nat} {n:Nat} {f g:Nat→AV} {a b:Int} (h:f=g) (h2:a=b):cD ρ (gY n f a) (gY n g b):=by
 subst h h2
 exact⟨rfl,rfl,rfl,rfl,fun i hi=>aH rfl⟩
theorem Vb {k n:Nat} {z:Nat→Int} {a m:Int} {o:ah} (ho:∀ρ,cD ρ o (gY n (fun i=>.int .i64 (z i)) a)) (h:cB n (fun i=>.int .i64 (z i)) a) (h1:0<m) (h2:m<2^62) (K:Nat):
  az P mI K [.ptr k 0 2 0 [],.int .i64 m] [(k,o)] ⟨.int .i64 (cy n (fun i=>.int .i64 (z i)) a m),[(k,gY n (fun i=>.int .i64 (z i)) (aR n a))],[]⟩:=by
 refine A7 hT afL hm RE rfl rfl (of_decide_eq_true (by kernel_rfl)) ho 60 WI (fun _=>?_) K
 have h3:=h.lo
 have h4:=h.hi
 have h5:=h.len
 simp only[aa.all,ax,decide_eq_true_eq,decide_eq_false_iff_not]
 refine⟨⟨by omega,by omega⟩,fun hb=>⟨br ?_,_,rfl,rfl,?_⟩,fun hb=>⟨⟨by omega,by omega⟩,?_⟩⟩
 ·unfold cy;rw[if_pos (by omega)]
 ·exact lC rfl (by unfold aR;rw[if_pos (by omega)])
 have e1:IntKind.i64.wrap (a+1)=a+1:=wrap_i64 (by omega) (by omega)
 have e2:IntKind.i64.wrap (a+1-1)=a:=by rw[wrap_i64 (by omega) (by omega)];omega
 rw[e1,e2]
 refine⟨⟨by omega,by omega,by omega,h1,h2⟩,br ?_,_,rfl,rfl,⟨rfl,rfl,rfl,rfl,fun i hi=>?_⟩⟩
 ·unfold cy;rw[if_neg (by omega)];rfl
 ·rw[show i=0 by have:i<1:=hi;omega]
  show eE _ (.agg [.ag 1 n (fun i=>.int .i64 (z i)),.int .i64 (a+1)]) (.agg [.ag 1 n (fun i=>.int .i64 (z i)),.int .i64 (aR n a)])
  rw[show aR n a=a+1 by unfold aR;rw[if_neg (by omega)]]
  exact aH rfl
def EE (k:Nat) (pre:aA):Option (Nat×(Nat→AV)×Int):=match pre with
 |[(k',o)]=>if k==k'&&!o.row&&o.wr&&o.es==2&&o.len==1 then match o.f 0 with
  |.agg [.ag 1 n f,.int .i64 a]=>some (n,f,a)
  |_=>none
  else none
 |_=>none
def gA (g:Nat→(Nat→AV)→Int→List AV→Option (AV×Int×List Prop)):Spec:=fun _ args pre=>match args with
 |.ptr k 0 2 0 []::l=>match EE k pre with
  |some (n,f,a)=>match g n f a l with
   |some (v,b,q)=>some ⟨v,[(k,gY n f b)],cB n f a::q⟩
   |none=>none
  |none=>none
 |_=>none
theorem RQ {k:Nat} {pre:aA} {n:Nat} {f:Nat→AV} {a:Int} (h:EE k pre=some (n,f,a)):∃o,pre=[(k,o)]∧∀ρ,cD ρ o (gY n f a):=by
 unfold EE at h
 split at h
 ·rename_i k' o
  split at h
  ·rename_i hc
   simp only[Bool.and_eq_true,beq_iff_eq,Bool.not_eq_true']at hc
   obtain⟨⟨⟨⟨rfl,h2⟩,h3⟩,h4⟩,h5⟩:=hc
   split at h
   ·rename_i n' f' a' hf
    simp only[Option.some.injEq,Prod.mk.injEq]at h
    obtain⟨rfl,rfl,rfl⟩:=h
    refine⟨o,rfl,fun ρ=>?_⟩
    obtain⟨row,wr,es,len,g⟩:=o
    simp only at h2 h3 h4 h5 hf
    subst h2 h3 h4 h5
    refine ic rfl fun i hi=>?_
    rw[show i=0 by omega,hf]
    exact aH rfl
   ·simp at h
  ·simp at h
 ·simp at h
theorem qn {fid:FuncId} {g:Nat→(Nat→AV)→Int→List AV→Option (AV×Int×List Prop)}
  (h:∀{k n:Nat} {z:Nat→Int} {a:Int} {l:List AV} {v:AV} {b:Int} {q:List Prop} {o:ah} (K:Nat),g n (fun i=>.int .i64 (z i)) a l=some (v,b,q)→(∀ρ,cD ρ o (gY n (fun i=>.int .i64 (z i)) a))→cB n (fun i=>.int .i64 (z i)) a→ax q→az P fid K (.ptr k 0 2 0 []::l) [(k,o)] ⟨v,[(k,gY n (fun i=>.int .i64 (z i)) b)],[]⟩):∀K args pre r,gA g K args pre=some r→az P fid K args pre r:=by
 intro K args pre r hs
 unfold gA at hs
 split at hs
 ·rename_i k l
  split at hs
  ·rename_i n f a hd
   split at hs
   ·rename_i v b q hv
    simp only[Option.some.injEq]at hs
    subst hs
    obtain⟨o,rfl,ho⟩:=RQ hd
    intro need
    obtain⟨hd,hq⟩:=(dw (a:=[cB n f a]) (b:=q)).1 need
    have hd:cB n f a:=hd
    obtain⟨z,rfl⟩:∃z:Nat→Int,f=fun i=>.int .i64 (z i):=⟨fun i=>intOf (f i),funext fun i=>hd.ints i⟩
    exact h K hv ho hd hq trivial
   ·simp at hs
  ·simp at hs
 ·simp at hs
def r6 (n:Nat) (f:Nat→AV) (a:Int) (l:List AV):Option (AV×Int×List Prop):=match l with
 |[.int .i64 m]=>some (.int .i64 (cy n f a m),aR n a,[0<m,m<2^62])
 |_=>none
theorem A6:∀K args pre r,gA r6 K args pre=some r→az P mI K args pre r:=by
 refine qn fun {k n z a l v b q o} K hg ho hd hq=>?_
 unfold r6 at hg
 split at hg
 ·simp only[Option.some.injEq,Prod.mk.injEq]at hg
  obtain⟨rfl,rfl,rfl⟩:=hg
  exact Vb ho hd hq.1 hq.2 K
 ·simp at hg
end Go.Am.B
