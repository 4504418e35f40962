/- brepkernelmade: Mod, Light, Roll, Part, Next, number, Number, Point, Map. -/
import Derived.Test.YtnniljlepppdpaaGreatB31
import Derived.Test.YtnniljlepppdpaaGreatZ2
set_option linter.unusedVariables false
namespace Go.Am.B
open Go Go.Am.N AV
theorem am2:aT P xQ Ei (ay Ei):=aU Proofs.Tryz.func139 ag ag ag
theorem V8:aT P I9 E4 (ay E4):=aU Proofs.Tryz.func9 ag ag ag
theorem acA:aT P K6 HA (ay HA):=aU Proofs.Tryz.func60 ag ag ag
theorem agv:aT P tG GK (ay GK):=aU Proofs.Tryz.func167 ag ag ag
abbrev jK (n:Nat) (f:Nat->AV) (a:Int):ak:=⟨false,true,2,1,fun _=>.agg [.aq 1 n f,.int .i64 a]⟩
theorem ajr {x m:Int}:bU T [] [9] 60 Ei (ay Ei) ⟨aP 0 [.int .i64 x,.int .i64 m],[],0⟩=
  some (ah.aj [m≠(0:Int)] (ah.fork (decide (x.tmod m<0)) (ah.leaf ax.ret [int .i64 (IntKind.i64.wrap (x.tmod m+m))]) (ah.leaf ax.ret [int .i64 (x.tmod m)]))):=ag
theorem acJ {n:Nat} {f:Nat->AV}:bU T [] [] 60 E4 (ay E4) ⟨aP 0 [.aq 1 n f],[],0⟩=
  some (ah.leaf ax.ret [AV.bool (decide ((↑n:Int)<=500))]):=ag
theorem ajK {n:Nat} {f:Nat->AV}:aG T [] [] 60 [2] [ay HA] ⟨aP 0 [.aq 1 n f],[],0⟩=some (.leaf .ret ([.ptr 12288 0 2 0 []],[(12288,jK n f 0)])):=ag
theorem aeI {x m:Int} (h1:0<m) (h2:m<2^62) (K:Nat):aQ P xQ K [.int .i64 x,.int .i64 m] [] (aJ (.int .i64 (x%m)) []):=by
 refine bZ hT bz hm am2 rfl aX rfl 60 ajr (fun _=>?_) K []
 simp only[ah.all,aA,bq,bw]
 have h3:=Int.tmod_lt_of_pos x h1
 have h4:=Int.lt_tmod_of_pos x h1
 have h5:=Int.emod_nonneg x (show m≠0 by omega)
 have h6:=Int.emod_lt_of_pos x h1
 have h7:=Int.tmod_eq_emod (a:=x) (b:=m)
 have h8:∀{v:Int},v<0->v=x%m-((if 0<=x\/m∣x then 0 else m.natAbs:Nat):Int)->v+m=x%m:=fun {v} g1 g2=>by
  by_cases h:0<=x\/m∣x
  ·rw[if_pos h]at g2;omega
  ·rw[if_neg h]at g2;omega
 have h9:∀{v:Int},¬v<0->v=x%m-((if 0<=x\/m∣x then 0 else m.natAbs:Nat):Int)->v=x%m:=fun {v} g1 g2=>by
  by_cases h:0<=x\/m∣x
  ·rw[if_pos h]at g2;omega
  ·rw[if_neg h]at g2;omega
 refine⟨aa,fun hb=>bK ?_,fun hb=>bK (h9 hb h7)⟩
 rw[wrap_i64 aa aa]
 exact h8 hb h7
def Kk:Spec:=bY fun l=>match l with
 |[.int .i64 x,.int .i64 m]=>some (aJ (.int .i64 (x%m)) [0<m,m<2^62])
 |_=>none
def GM:bf:=[(xQ,Kk)]
theorem M3:aW P Kk xQ:=by
 refine cJ fun K args r hk hs _=>?_
 split at hs
 ·simp only[az]at hs
  subst hs
  exact fun need=>aeI need.1 need.2 K trivial
 ·simp at hs
theorem aoI:bu P GM:=aI M3 bz
theorem ach {n:Nat} {z:Nat->Int} {a m:Int}:uQ T GM [14] 60 GK (ay GK) ⟨aP 0 [.ptr 0 0 2 0 [],.int .i64 m],[(0,jK n (fun i=>.int .i64 (z i)) a)],1⟩=
  let c4:Int:=IntKind.i64.wrap (a+1);let c3:Prop:=0<1;let c1:AV:=agg [aq 1 n fun i=>int .i64 (z i),int .i64 a];let c2:Int:=IntKind.i64.wrap (c4-1);some (ah.aj [c3,c3] (ah.fork (decide (a>=(↑n:Int))) (ah.leaf ax.ret ([int .i64 (0:Int)],some (ak.mk false true 2 1 fun x=>c1))) (ah.aj [c3,c3] (ah.aj [c3,c3,(0:Int)<=c2/\c2.toNat<n,(0:Int)<m,m<2^62] (ah.leaf ax.ret ([int .i64 (z c2.toNat%m)],some (ak.mk false true 2 1 fun j=>if(j==0)=true then agg (c1.kids.set 1 (aV (int .i64 c4)))else c1))))))):=ag
def intOf:AV->Int
 |.int _ n=>n
 |_=>0
def cF (n:Nat) (f:Nat->AV) (a m:Int):Int:=if(n:Int)<=a then 0 else intOf (f a.toNat)%m
def aR (n:Nat) (a:Int):Int:=if(n:Int)<=a then a else a+1
structure dj (n:Nat) (f:Nat->AV) (a:Int):Prop where
 ints:∀i,f i=.int .i64 (intOf (f i))
 lo:0<=a
 hi:a<=n
 len:n<2^62
theorem dj.next {n:Nat} {f:Nat->AV} {a:Int} (h:dj n f a):dj n f (aR n a):=
 ⟨h.ints,by have:=h.lo;unfold aR;split<;>omega,by have:=h.hi;unfold aR;split<;>omega,h.len⟩
theorem gC {n:Nat} {f:Nat->AV} {a m:Int} (hm:0<m):0<=cF n f a m:=by
 unfold cF;split
 ·omega
 ·exact Int.emod_nonneg _ aa
theorem gH {n:Nat} {f:Nat->AV} {a m:Int} (hm:0<m):cF n f a m<m:=by
 unfold cF;split
 ·omega
 ·exact Int.emod_lt_of_pos _ hm
theorem pI {ρ:Nat->Option Nat} {n:Nat} {f g:Nat->AV} {a b:Int} (h:f=g) (h2:a=b):dw ρ (jK n f a) (jK n g b):=by
 subst h h2
 exact⟨rfl,rfl,rfl,rfl,fun i hi=>gm rfl⟩
theorem amy {k n:Nat} {z:Nat->Int} {a m:Int} {o:ak} (ho:∀ρ,dw ρ o (jK n (fun i=>.int .i64 (z i)) a)) (h:dj n (fun i=>.int .i64 (z i)) a) (h1:0<m) (h2:m<2^62) (K:Nat):
  aQ P tG K [.ptr k 0 2 0 [],.int .i64 m] [(k,o)] ⟨.int .i64 (cF n (fun i=>.int .i64 (z i)) a m),[(k,jK n (fun i=>.int .i64 (z i)) (aR n a))],[]⟩:=by
 refine Gm hT aoI hm agv rfl rfl aX ho 60 ach (fun _=>?_) K
 have h3:=h.lo
 have h4:=h.hi
 have h5:=h.len
 simp only[ah.all,aA,bq,bw]
 refine⟨⟨aa,aa⟩,fun hb=>⟨bK ?_,_,rfl,rfl,?_⟩,fun hb=>⟨⟨aa,aa⟩,?_⟩⟩
 ·unfold cF;rw[if_pos aa]
 ·exact pI rfl (by unfold aR;rw[if_pos aa])
 have e1:IntKind.i64.wrap (a+1)=a+1:=wrap_i64 aa aa
 have e2:IntKind.i64.wrap (a+1-1)=a:=by rw[wrap_i64 aa aa];omega
 rw[e1,e2]
 refine⟨⟨aa,aa,aa,h1,h2⟩,bK ?_,_,rfl,rfl,⟨rfl,rfl,rfl,rfl,fun i hi=>?_⟩⟩
 ·unfold cF;rw[if_neg aa];rfl
 ·rw[show i=0 by have:i<1:=hi;omega]
  show fR _ (.agg [.aq 1 n (fun i=>.int .i64 (z i)),.int .i64 (a+1)]) (.agg [.aq 1 n (fun i=>.int .i64 (z i)),.int .i64 (aR n a)])
  rw[show aR n a=a+1 by unfold aR;rw[if_neg aa]]
  exact gm rfl
def Jx (k:Nat) (pre:aE):Option (Nat×(Nat->AV)×Int):=match pre with
 |[(k',o)]=>if k==k'&&!o.row&&o.wr&&o.es==2&&o.len==1 then match o.f 0 with
  |.agg [.aq 1 n f,.int .i64 a]=>some (n,f,a)
  |_=>none
  else none
 |_=>none
def jD (g:Nat->(Nat->AV)->Int->List AV->Option (AV×Int×List Prop)):Spec:=fun _ args pre=>match args with
 |.ptr k 0 2 0 []::l=>match Jx k pre with
  |some (n,f,a)=>match g n f a l with
   |some (v,b,q)=>some ⟨v,[(k,jK n f b)],dj n f a::q⟩
   |none=>none
  |none=>none
 |_=>none
theorem WJ {k:Nat} {pre:aE} {n:Nat} {f:Nat->AV} {a:Int} (h:Jx k pre=some (n,f,a)):∃o,pre=[(k,o)]/\∀ρ,dw ρ o (jK n f a):=by
 unfold Jx at h
 split at h
 ·rename_i k' o
  split at h
  ·rename_i hc
   simp only[Bool.and_eq_true,beq_iff_eq,Bool.not_eq_true']at hc
   obtain⟨⟨⟨⟨rfl,h2⟩,h3⟩,h4⟩,h5⟩:=hc
   split at h
   ·rename_i n' f' a' hf
    simp only[az,Prod.mk.injEq]at h
    obtain⟨rfl,rfl,rfl⟩:=h
    refine⟨o,rfl,fun ρ=>?_⟩
    obtain⟨row,wr,es,len,g⟩:=o
    simp only at h2 h3 h4 h5 hf
    subst h2 h3 h4 h5
    refine jl rfl fun i hi=>?_
    rw[show i=0 by omega,hf]
    exact gm rfl
   ·simp at h
  ·simp at h
 ·simp at h
theorem wN {fid:FuncId} {g:Nat->(Nat->AV)->Int->List AV->Option (AV×Int×List Prop)}
  (h:∀{k n:Nat} {z:Nat->Int} {a:Int} {l:List AV} {v:AV} {b:Int} {q:List Prop} {o:ak} (K:Nat),g n (fun i=>.int .i64 (z i)) a l=some (v,b,q)->(∀ρ,dw ρ o (jK n (fun i=>.int .i64 (z i)) a))->dj n (fun i=>.int .i64 (z i)) a->aA q->aQ P fid K (.ptr k 0 2 0 []::l) [(k,o)] ⟨v,[(k,jK n (fun i=>.int .i64 (z i)) b)],[]⟩):aW P (jD g) fid:=by
 intro K args pre r hs
 unfold jD at hs
 split at hs
 ·rename_i k l
  split at hs
  ·rename_i n f a hd
   split at hs
   ·rename_i v b q hv
    simp only[az]at hs
    subst hs
    obtain⟨o,rfl,ho⟩:=WJ hd
    intro need
    obtain⟨hd,hq⟩:=(dD (a:=[dj n f a]) (b:=q)).1 need
    have hd:dj n f a:=hd
    obtain⟨z,rfl⟩:∃z:Nat->Int,f=fun i=>.int .i64 (z i):=⟨fun i=>intOf (f i),funext fun i=>hd.ints i⟩
    exact h K hv ho hd hq trivial
   ·simp at hs
  ·simp at hs
 ·simp at hs
def uF (n:Nat) (f:Nat->AV) (a:Int) (l:List AV):Option (AV×Int×List Prop):=match l with
 |[.int .i64 m]=>some (.int .i64 (cF n f a m),aR n a,[0<m,m<2^62])
 |_=>none
theorem BK:aW P (jD uF) tG:=by
 refine wN fun {k n z a l v b q o} K hg ho hd hq=>?_
 unfold uF at hg
 split at hg
 ·simp only[az,Prod.mk.injEq]at hg
  obtain⟨rfl,rfl,rfl⟩:=hg
  exact amy ho hd hq.1 hq.2 K
 ·simp at hg
end Go.Am.B
