/- brepkernelmade: Mod, Light, Roll, Part, Next, number, Number, Point, Map. -/
import Derived.Test.YtnniljlepppdpaaGreatB31
import Derived.Test.YtnniljlepppdpaaGreatZ2
set_option linter.unusedVariables false
namespace Go.Am.B
open Go Go.Am.N AV
theorem aie:aU P wY Bu (az Bu):=aT Proofs.Tryz.func139 ah ah ah
theorem ZK:aU P G6 Ax (az Ax):=aT Proofs.Tryz.func9 ah ah ah
theorem aax:aU P EK Ft (az Ft):=aT Proofs.Tryz.func60 ah ah ah
theorem adL:aU P r7 CQ (az CQ):=aT Proofs.Tryz.func167 ah ah ah
abbrev jr (n:Nat) (f:Nat->AV) (a:Int):ax:=⟨false,true,2,1,fun _=>.agg [.aq 1 n f,.int .i64 a]⟩
theorem TU {x m:Int}:bP T [] [9] 60 Bu (az Bu) ⟨aQ 0 [.int .i64 x,.int .i64 m],[],0⟩=
  some (ag.aj [m≠(0:Int)] (ag.fork (decide (x.tmod m<(0:Int))) (ag.leaf ak.ret [int IntKind.i64 (IntKind.i64.wrap (x.tmod m+m))]) (ag.leaf ak.ret [int IntKind.i64 (x.tmod m)]))):=ah
theorem Wg {n:Nat} {f:Nat->AV}:bP T [] [] 60 Ax (az Ax) ⟨aQ 0 [.aq 1 n f],[],0⟩=
  some (ag.leaf ak.ret [AV.bool (decide ((↑n:Int)<=(500:Int)))]):=ah
theorem YP {n:Nat} {f:Nat->AV}:aJ T [] [] 60 [2] [az Ft] ⟨aQ 0 [.aq 1 n f],[],0⟩=some (.leaf .ret ([.ptr 12288 0 2 0 []],[(12288,jr n f 0)])):=ah
theorem Y8 {x m:Int} (h1:0<m) (h2:m<2^62) (K:Nat):aD P wY K [.int .i64 x,.int .i64 m] [] (aL (.int .i64 (x%m)) []):=by
 refine bW hT bE hm aie rfl aW rfl 60 TU (fun _=>?_) K []
 simp only[ag.all,aA,bf,bt]
 have h3:=Int.tmod_lt_of_pos x h1
 have h4:=Int.lt_tmod_of_pos x h1
 have h5:=Int.emod_nonneg x (show m≠0 by omega)
 have h6:=Int.emod_lt_of_pos x h1
 have h7:=Int.tmod_eq_emod (a:=x) (b:=m)
 have h8:∀{v:Int},v<0->v=x%m-((if 0<=x\/m∣x then 0 else m.natAbs:Nat):Int)->v+m=x%m:=fun {v} g1 g2=>by
  by_cases h:0<=x\/m∣x
  ·rw[if_pos h]at g2;omega
  ·rw[if_neg h]at g2;omega
 have h9:∀{v:Int},¬v<0->v=x%m-((if 0<=x\/m∣x then 0 else m.natAbs:Nat):Int)->v=x%m:=fun {v} g1 g2=>by
  by_cases h:0<=x\/m∣x
  ·rw[if_pos h]at g2;omega
  ·rw[if_neg h]at g2;omega
 refine⟨aa,fun hb=>bJ ?_,fun hb=>bJ (h9 hb h7)⟩
 rw[wrap_i64 aa aa]
 exact h8 hb h7
def GK:Spec:=bM fun l=>match l with
 |[.int .i64 x,.int .i64 m]=>some (aL (.int .i64 (x%m)) [0<m,m<2^62])
 |_=>none
def GM:aV:=[(wY,GK)]
theorem Nq:∀K args pre r,GK K args pre=some r->aD P wY K args pre r:=by
 refine ct fun K args r hk hs _=>?_
 split at hs
 ·simp only[au]at hs
  subst hs
  exact fun need=>Y8 need.1 need.2 K trivial
 ·simp at hs
theorem Wv:bn P GM:=aI Nq bE
theorem ai6 {n:Nat} {z:Nat->Int} {a m:Int}:uj T GM [14] 60 CQ (az CQ) ⟨aQ 0 [.ptr 0 0 2 0 [],.int .i64 m],[(0,jr n (fun i=>.int .i64 (z i)) a)],1⟩=
  let c4:Int:=IntKind.i64.wrap (a+(1:Int));let c3:Prop:=0<1;let c1:AV:=agg [aq 1 n fun i=>int IntKind.i64 (z i),int IntKind.i64 a];let c2:Int:=IntKind.i64.wrap (c4-(1:Int));some (ag.aj [c3,c3] (ag.fork (decide (a>=(↑n:Int))) (ag.leaf ak.ret ([int IntKind.i64 (0:Int)],some (ax.mk false true 2 1 fun x=>c1))) (ag.aj [c3,c3] (ag.aj [c3,c3,(0:Int)<=c2/\c2.toNat<n,(0:Int)<m,m<(2:Int)^62] (ag.leaf ak.ret ([int IntKind.i64 (z c2.toNat%m)],some (ax.mk false true 2 1 fun j=>if(j==0)=true then agg (c1.kids.set 1 (bA (int IntKind.i64 c4)))else c1))))))):=ah
def intOf:AV->Int
 |.int _ n=>n
 |_=>0
def dg (n:Nat) (f:Nat->AV) (a m:Int):Int:=if(n:Int)<=a then 0 else intOf (f a.toNat)%m
def bK (n:Nat) (a:Int):Int:=if(n:Int)<=a then a else a+1
structure cW (n:Nat) (f:Nat->AV) (a:Int):Prop where
 ints:∀i,f i=.int .i64 (intOf (f i))
 lo:0<=a
 hi:a<=n
 len:n<2^62
theorem cW.next {n:Nat} {f:Nat->AV} {a:Int} (h:cW n f a):cW n f (bK n a):=
 ⟨h.ints,by have:=h.lo;unfold bK;split<;>omega,by have:=h.hi;unfold bK;split<;>omega,h.len⟩
theorem iE {n:Nat} {f:Nat->AV} {a m:Int} (hm:0<m):0<=dg n f a m:=by
 unfold dg;split
 ·omega
 ·exact Int.emod_nonneg _ aa
theorem iP {n:Nat} {f:Nat->AV} {a m:Int} (hm:0<m):dg n f a m<m:=by
 unfold dg;split
 ·omega
 ·exact Int.emod_lt_of_pos _ hm
theorem nU {ρ:Nat->Option Nat} {n:Nat} {f g:Nat->AV} {a b:Int} (h:f=g) (h2:a=b):cM ρ (jr n f a) (jr n g b):=by
 subst h h2
 exact⟨rfl,rfl,rfl,rfl,fun i hi=>aK rfl⟩
theorem VW {k n:Nat} {z:Nat->Int} {a m:Int} {o:ax} (ho:∀ρ,cM ρ o (jr n (fun i=>.int .i64 (z i)) a)) (h:cW n (fun i=>.int .i64 (z i)) a) (h1:0<m) (h2:m<2^62) (K:Nat):
  aD P r7 K [.ptr k 0 2 0 [],.int .i64 m] [(k,o)] ⟨.int .i64 (dg n (fun i=>.int .i64 (z i)) a m),[(k,jr n (fun i=>.int .i64 (z i)) (bK n a))],[]⟩:=by
 refine Dm hT Wv hm adL rfl rfl aW ho 60 ai6 (fun _=>?_) K
 have h3:=h.lo
 have h4:=h.hi
 have h5:=h.len
 simp only[ag.all,aA,bf,bt]
 refine⟨⟨aa,aa⟩,fun hb=>⟨bJ ?_,_,rfl,rfl,?_⟩,fun hb=>⟨⟨aa,aa⟩,?_⟩⟩
 ·unfold dg;rw[if_pos aa]
 ·exact nU rfl (by unfold bK;rw[if_pos aa])
 have e1:IntKind.i64.wrap (a+1)=a+1:=wrap_i64 aa aa
 have e2:IntKind.i64.wrap (a+1-1)=a:=by rw[wrap_i64 aa aa];omega
 rw[e1,e2]
 refine⟨⟨aa,aa,aa,h1,h2⟩,bJ ?_,_,rfl,rfl,⟨rfl,rfl,rfl,rfl,fun i hi=>?_⟩⟩
 ·unfold dg;rw[if_neg aa];rfl
 ·rw[show i=0 by have:i<1:=hi;omega]
  show gD _ (.agg [.aq 1 n (fun i=>.int .i64 (z i)),.int .i64 (a+1)]) (.agg [.aq 1 n (fun i=>.int .i64 (z i)),.int .i64 (bK n a)])
  rw[show bK n a=a+1 by unfold bK;rw[if_neg aa]]
  exact aK rfl
def GF (k:Nat) (pre:aE):Option (Nat×(Nat->AV)×Int):=match pre with
 |[(k',o)]=>if k==k'&&!o.row&&o.wr&&o.es==2&&o.len==1 then match o.f 0 with
  |.agg [.aq 1 n f,.int .i64 a]=>some (n,f,a)
  |_=>none
  else none
 |_=>none
def iS (g:Nat->(Nat->AV)->Int->List AV->Option (AV×Int×List Prop)):Spec:=fun _ args pre=>match args with
 |.ptr k 0 2 0 []::l=>match GF k pre with
  |some (n,f,a)=>match g n f a l with
   |some (v,b,q)=>some ⟨v,[(k,jr n f b)],cW n f a::q⟩
   |none=>none
  |none=>none
 |_=>none
theorem Yq {k:Nat} {pre:aE} {n:Nat} {f:Nat->AV} {a:Int} (h:GF k pre=some (n,f,a)):∃o,pre=[(k,o)]/\∀ρ,cM ρ o (jr n f a):=by
 unfold GF at h
 split at h
 ·rename_i k' o
  split at h
  ·rename_i hc
   simp only[Bool.and_eq_true,beq_iff_eq,Bool.not_eq_true']at hc
   obtain⟨⟨⟨⟨rfl,h2⟩,h3⟩,h4⟩,h5⟩:=hc
   split at h
   ·rename_i n' f' a' hf
    simp only[au,Prod.mk.injEq]at h
    obtain⟨rfl,rfl,rfl⟩:=h
    refine⟨o,rfl,fun ρ=>?_⟩
    obtain⟨row,wr,es,len,g⟩:=o
    simp only at h2 h3 h4 h5 hf
    subst h2 h3 h4 h5
    refine iA rfl fun i hi=>?_
    rw[show i=0 by omega,hf]
    exact aK rfl
   ·simp at h
  ·simp at h
 ·simp at h
theorem uG {fid:FuncId} {g:Nat->(Nat->AV)->Int->List AV->Option (AV×Int×List Prop)}
  (h:∀{k n:Nat} {z:Nat->Int} {a:Int} {l:List AV} {v:AV} {b:Int} {q:List Prop} {o:ax} (K:Nat),g n (fun i=>.int .i64 (z i)) a l=some (v,b,q)->(∀ρ,cM ρ o (jr n (fun i=>.int .i64 (z i)) a))->cW n (fun i=>.int .i64 (z i)) a->aA q->aD P fid K (.ptr k 0 2 0 []::l) [(k,o)] ⟨v,[(k,jr n (fun i=>.int .i64 (z i)) b)],[]⟩):∀K args pre r,iS g K args pre=some r->aD P fid K args pre r:=by
 intro K args pre r hs
 unfold iS at hs
 split at hs
 ·rename_i k l
  split at hs
  ·rename_i n f a hd
   split at hs
   ·rename_i v b q hv
    simp only[au]at hs
    subst hs
    obtain⟨o,rfl,ho⟩:=Yq hd
    intro need
    obtain⟨hd,hq⟩:=(dn (a:=[cW n f a]) (b:=q)).1 need
    have hd:cW n f a:=hd
    obtain⟨z,rfl⟩:∃z:Nat->Int,f=fun i=>.int .i64 (z i):=⟨fun i=>intOf (f i),funext fun i=>hd.ints i⟩
    exact h K hv ho hd hq trivial
   ·simp at hs
  ·simp at hs
 ·simp at hs
def uu (n:Nat) (f:Nat->AV) (a:Int) (l:List AV):Option (AV×Int×List Prop):=match l with
 |[.int .i64 m]=>some (.int .i64 (dg n f a m),bK n a,[0<m,m<2^62])
 |_=>none
theorem Au:∀K args pre r,iS uu K args pre=some r->aD P r7 K args pre r:=by
 refine uG fun {k n z a l v b q o} K hg ho hd hq=>?_
 unfold uu at hg
 split at hg
 ·simp only[au,Prod.mk.injEq]at hg
  obtain⟨rfl,rfl,rfl⟩:=hg
  exact VW ho hd hq.1 hq.2 K
 ·simp at hg
end Go.Am.B
