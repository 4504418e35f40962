/- brepkernelmade: Mod, Light, Roll, Part, Next, number, Number, Point, Map. -/
import Derived.Test.YtppeigelbecpbaaGreatB31
import Derived.Test.YtppeigelbecpbaaGreatZ2
set_option linter.unusedVariables false
namespace Go.Am.B
open Go Go.Am.N AV
theorem ahn:aO P sZ xk (au xk):=aQ Rw (by kernel_rfl) (by kernel_rfl) (by kernel_rfl)
theorem Uq:aO P Db xD (au xD):=aQ abm (by kernel_rfl) (by kernel_rfl) (by kernel_rfl)
theorem ai3:aO P DV Cx (au Cx):=aQ WJ (by kernel_rfl) (by kernel_rfl) (by kernel_rfl)
theorem aee:aO P oL wD (au wD):=aQ af6 (by kernel_rfl) (by kernel_rfl) (by kernel_rfl)
abbrev iG (n:Nat) (f:Nat→AV) (a:Int):ah:=⟨false,true,2,1,fun _=>.agg [.ak 1 n f,.int .i64 a]⟩
theorem adi {x m:Int}:bF T [] [9] 60 xk (au xk) ⟨aN 0 [.int .i64 x,.int .i64 m],[],0⟩=
  some (aa.ag [m≠(0:Int)] (aa.fork (decide (x.tmod m<(0:Int))) (aa.leaf aj.ret [int IntKind.i64 (IntKind.i64.wrap (x.tmod m+m))]) (aa.leaf aj.ret [int IntKind.i64 (x.tmod m)]))):=by kernel_rfl
theorem akT {n:Nat} {f:Nat→AV}:bF T [] [] 60 xD (au xD) ⟨aN 0 [.ak 1 n f],[],0⟩=
  some (aa.leaf aj.ret [AV.bool (decide ((↑n:Int)≤(500:Int)))]):=by kernel_rfl
theorem ZD {n:Nat} {f:Nat→AV}:aH T [] [] 60 [2] [au Cx] ⟨aN 0 [.ak 1 n f],[],0⟩=some (.leaf .ret ([.ptr 12288 0 2 0 []],[(12288,iG n f 0)])):=by kernel_rfl
theorem Ym {x m:Int} (h1:0<m) (h2:m<2^62) (K:Nat):aB P sZ K [.int .i64 x,.int .i64 m] [] (aK (.int .i64 (x%m)) []):=by
 refine bJ hT bk hm ahn rfl (of_decide_eq_true (by kernel_rfl)) rfl 60 adi (fun _=>?_) K []
 simp only[aa.all,ax,decide_eq_true_eq,decide_eq_false_iff_not]
 have h3:=Int.tmod_lt_of_pos x h1
 have h4:=Int.lt_tmod_of_pos x h1
 have h5:=Int.emod_nonneg x (show m≠0 by omega)
 have h6:=Int.emod_lt_of_pos x h1
 have h7:=Int.tmod_eq_emod (a:=x) (b:=m)
 have h8:∀{v:Int},v<0→v=x%m-((if 0≤x∨m∣x then 0 else m.natAbs:Nat):Int)→v+m=x%m:=fun {v} g1 g2=>by
  by_cases h:0≤x∨m∣x
  ·rw[if_pos h]at g2;omega
  ·rw[if_neg h]at g2;omega
 have h9:∀{v:Int},¬v<0→v=x%m-((if 0≤x∨m∣x then 0 else m.natAbs:Nat):Int)→v=x%m:=fun {v} g1 g2=>by
  by_cases h:0≤x∨m∣x
  ·rw[if_pos h]at g2;omega
  ·rw[if_neg h]at g2;omega
 refine⟨by omega,fun hb=>bw ?_,fun hb=>bw (h9 hb h7)⟩
 rw[wrap_i64 (by omega) (by omega)]
 exact h8 hb h7
def Gf:Spec:=bC fun l=>match l with
 |[.int .i64 x,.int .i64 m]=>some (aK (.int .i64 (x%m)) [0<m,m<2^62])
 |_=>none
def GM:aR:=[(sZ,Gf)]
theorem Lq:∀K args pre r,Gf K args pre=some r→aB P sZ K args pre r:=by
 refine bV fun K args r hk hs _=>?_
 split at hs
 ·simp only[Option.some.injEq]at hs
  subst hs
  exact fun need=>Ym need.1 need.2 K trivial
 ·simp at hs
theorem agD:aY P GM:=aG Lq bk
theorem Xf {n:Nat} {z:Nat→Int} {a m:Int}:qh T GM [14] 60 wD (au wD) ⟨aN 0 [.ptr 0 0 2 0 [],.int .i64 m],[(0,iG n (fun i=>.int .i64 (z i)) a)],1⟩=
  let c4:Int:=IntKind.i64.wrap (a+(1:Int));let c3:Prop:=0<1;let c1:AV:=agg [ak 1 n fun i↦int IntKind.i64 (z i),int IntKind.i64 a];let c2:Int:=IntKind.i64.wrap (c4-(1:Int));some (aa.ag [c3,c3] (aa.fork (decide (a≥(↑n:Int))) (aa.leaf aj.ret ([int IntKind.i64 (0:Int)],some (ah.mk false true 2 1 fun x↦c1))) (aa.ag [c3,c3] (aa.ag [c3,c3,(0:Int)≤c2∧c2.toNat<n,(0:Int)<m,m<(2:Int)^62] (aa.leaf aj.ret ([int IntKind.i64 (z c2.toNat%m)],some (ah.mk false true 2 1 fun j↦if(j==0)=true then agg (c1.kids.set 1 (bn (int IntKind.i64 c4)))else c1))))))):=by kernel_rfl
def intOf:AV→Int
 |.int _ n=>n
 |_=>0
def cS (n:Nat) (f:Nat→AV) (a m:Int):Int:=if(n:Int)≤a then 0 else intOf (f a.toNat)%m
def bA (n:Nat) (a:Int):Int:=if(n:Int)≤a then a else a+1
structure cC (n:Nat) (f:Nat→AV) (a:Int):Prop where
 ints:∀i,f i=.int .i64 (intOf (f i))
 lo:0≤a
 hi:a≤n
 len:n<2^62
theorem cC.next {n:Nat} {f:Nat→AV} {a:Int} (h:cC n f a):cC n f (bA n a):=
 ⟨h.ints,by have:=h.lo;unfold bA;split<;>omega,by have:=h.hi;unfold bA;split<;>omega,h.len⟩
theorem jL {n:Nat} {f:Nat→AV} {a m:Int} (hm:0<m):0≤cS n f a m:=by
 unfold cS;split
 ·omega
 ·exact Int.emod_nonneg _ (by omega)
theorem jK {n:Nat} {f:Nat→AV} {a m:Int} (hm:0<m):cS n f a m<m:=by
 unfold cS;split
 ·omega
 ·exact Int.emod_lt_of_pos _ hm
theorem mT {ρ:Nat→Option Nat} {n:Nat} {f g:Nat→AV} {a b:Int} (h:f=g) (h2:a=b):cu ρ (iG n f a) (iG n g b):=by
 subst h h2
 exact⟨rfl,rfl,rfl,rfl,fun i hi=>aI rfl⟩
theorem aaz {k n:Nat} {z:Nat→Int} {a m:Int} {o:ah} (ho:∀ρ,cu ρ o (iG n (fun i=>.int .i64 (z i)) a)) (h:cC n (fun i=>.int .i64 (z i)) a) (h1:0<m) (h2:m<2^62) (K:Nat):
  aB P oL K [.ptr k 0 2 0 [],.int .i64 m] [(k,o)] ⟨.int .i64 (cS n (fun i=>.int .i64 (z i)) a m),[(k,iG n (fun i=>.int .i64 (z i)) (bA n a))],[]⟩:=by
 refine Ay hT agD hm aee rfl rfl (of_decide_eq_true (by kernel_rfl)) ho 60 Xf (fun _=>?_) K
 have h3:=h.lo
 have h4:=h.hi
 have h5:=h.len
 simp only[aa.all,ax,decide_eq_true_eq,decide_eq_false_iff_not]
 refine⟨⟨by omega,by omega⟩,fun hb=>⟨bw ?_,_,rfl,rfl,?_⟩,fun hb=>⟨⟨by omega,by omega⟩,?_⟩⟩
 ·unfold cS;rw[if_pos (by omega)]
 ·exact mT rfl (by unfold bA;rw[if_pos (by omega)])
 have e1:IntKind.i64.wrap (a+1)=a+1:=wrap_i64 (by omega) (by omega)
 have e2:IntKind.i64.wrap (a+1-1)=a:=by rw[wrap_i64 (by omega) (by omega)];omega
 rw[e1,e2]
 refine⟨⟨by omega,by omega,by omega,h1,h2⟩,bw ?_,_,rfl,rfl,⟨rfl,rfl,rfl,rfl,fun i hi=>?_⟩⟩
 ·unfold cS;rw[if_neg (by omega)];rfl
 ·rw[show i=0 by have:i<1:=hi;omega]
  show fX _ (.agg [.ak 1 n (fun i=>.int .i64 (z i)),.int .i64 (a+1)]) (.agg [.ak 1 n (fun i=>.int .i64 (z i)),.int .i64 (bA n a)])
  rw[show bA n a=a+1 by unfold bA;rw[if_neg (by omega)]]
  exact aI rfl
def E3 (k:Nat) (pre:aC):Option (Nat×(Nat→AV)×Int):=match pre with
 |[(k',o)]=>if k==k'&&!o.row&&o.wr&&o.es==2&&o.len==1 then match o.f 0 with
  |.agg [.ak 1 n f,.int .i64 a]=>some (n,f,a)
  |_=>none
  else none
 |_=>none
def gJ (g:Nat→(Nat→AV)→Int→List AV→Option (AV×Int×List Prop)):Spec:=fun _ args pre=>match args with
 |.ptr k 0 2 0 []::l=>match E3 k pre with
  |some (n,f,a)=>match g n f a l with
   |some (v,b,q)=>some ⟨v,[(k,iG n f b)],cC n f a::q⟩
   |none=>none
  |none=>none
 |_=>none
theorem Wz {k:Nat} {pre:aC} {n:Nat} {f:Nat→AV} {a:Int} (h:E3 k pre=some (n,f,a)):∃o,pre=[(k,o)]∧∀ρ,cu ρ o (iG n f a):=by
 unfold E3 at h
 split at h
 ·rename_i k' o
  split at h
  ·rename_i hc
   simp only[Bool.and_eq_true,beq_iff_eq,Bool.not_eq_true']at hc
   obtain⟨⟨⟨⟨rfl,h2⟩,h3⟩,h4⟩,h5⟩:=hc
   split at h
   ·rename_i n' f' a' hf
    simp only[Option.some.injEq,Prod.mk.injEq]at h
    obtain⟨rfl,rfl,rfl⟩:=h
    refine⟨o,rfl,fun ρ=>?_⟩
    obtain⟨row,wr,es,len,g⟩:=o
    simp only at h2 h3 h4 h5 hf
    subst h2 h3 h4 h5
    refine ji rfl fun i hi=>?_
    rw[show i=0 by omega,hf]
    exact aI rfl
   ·simp at h
  ·simp at h
 ·simp at h
theorem rP {fid:FuncId} {g:Nat→(Nat→AV)→Int→List AV→Option (AV×Int×List Prop)}
  (h:∀{k n:Nat} {z:Nat→Int} {a:Int} {l:List AV} {v:AV} {b:Int} {q:List Prop} {o:ah} (K:Nat),g n (fun i=>.int .i64 (z i)) a l=some (v,b,q)→(∀ρ,cu ρ o (iG n (fun i=>.int .i64 (z i)) a))→cC n (fun i=>.int .i64 (z i)) a→ax q→aB P fid K (.ptr k 0 2 0 []::l) [(k,o)] ⟨v,[(k,iG n (fun i=>.int .i64 (z i)) b)],[]⟩):∀K args pre r,gJ g K args pre=some r→aB P fid K args pre r:=by
 intro K args pre r hs
 unfold gJ at hs
 split at hs
 ·rename_i k l
  split at hs
  ·rename_i n f a hd
   split at hs
   ·rename_i v b q hv
    simp only[Option.some.injEq]at hs
    subst hs
    obtain⟨o,rfl,ho⟩:=Wz hd
    intro need
    obtain⟨hd,hq⟩:=(dG (a:=[cC n f a]) (b:=q)).1 need
    have hd:cC n f a:=hd
    obtain⟨z,rfl⟩:∃z:Nat→Int,f=fun i=>.int .i64 (z i):=⟨fun i=>intOf (f i),funext fun i=>hd.ints i⟩
    exact h K hv ho hd hq trivial
   ·simp at hs
  ·simp at hs
 ·simp at hs
def r8 (n:Nat) (f:Nat→AV) (a:Int) (l:List AV):Option (AV×Int×List Prop):=match l with
 |[.int .i64 m]=>some (.int .i64 (cS n f a m),bA n a,[0<m,m<2^62])
 |_=>none
theorem Df:∀K args pre r,gJ r8 K args pre=some r→aB P oL K args pre r:=by
 refine rP fun {k n z a l v b q o} K hg ho hd hq=>?_
 unfold r8 at hg
 split at hg
 ·simp only[Option.some.injEq,Prod.mk.injEq]at hg
  obtain⟨rfl,rfl,rfl⟩:=hg
  exact aaz ho hd hq.1 hq.2 K
 ·simp at hg
end Go.Am.B
