/- brepkernelmade. -/
import Derived.Test.YtppeigelbecpbaaGreatB31
import Derived.Test.YtppeigelbecpbaaGreatZ2
set_option linter.unusedVariables false
namespace Go.Am.B
open Go Go.Am.N AV
theorem ac5:aT P Cf Ef (aA Ef):=aY Proofs.Tryz.func14 ag ag ag
theorem ajx:aT P Kg FU (aA FU):=aY Proofs.Tryz.func9 ag ag ag
theorem acr:aT P IJ Gs (aA Gs):=aY Proofs.Tryz.func40 ag ag ag
theorem afi:aT P uf DL (aA DL):=aY Proofs.Tryz.func110 ag ag ag
abbrev jw (n:Nat) (f:Nat->AV) (a:Int):ak:=⟨false,true,2,1,fun _=>.agg [.aq 1 n f,.int .i64 a]⟩
theorem aai {x m:Int}:bW T [] [9] 60 Ef (aA Ef) ⟨aQ 0 [.int .i64 x,.int .i64 m],[],0⟩=
  some (ah.aj [m≠(0:Int)] (ah.fork (decide (x.tmod m<(0:Int))) (ah.leaf au.ret [int IntKind.i64 (IntKind.i64.wrap (x.tmod m+m))]) (ah.leaf au.ret [int IntKind.i64 (x.tmod m)]))):=ag
theorem ai5 {n:Nat} {f:Nat->AV}:bW T [] [] 60 FU (aA FU) ⟨aQ 0 [.aq 1 n f],[],0⟩=
  some (ah.leaf au.ret [AV.bool (decide ((↑n:Int)<=(500:Int)))]):=ag
theorem Ub {n:Nat} {f:Nat->AV}:aH T [] [] 60 [2] [aA Gs] ⟨aQ 0 [.aq 1 n f],[],0⟩=some (.leaf .ret ([.ptr 12288 0 2 0 []],[(12288,jw n f 0)])):=ag
theorem ahH {x m:Int} (h1:0<m) (h2:m<2^62) (K:Nat):aE P Cf K [.int .i64 x,.int .i64 m] [] (aK (.int .i64 (x%m)) []):=by
 refine cj hT bO hm ac5 rfl aX rfl 60 aai (fun _=>?_) K []
 simp only[ah.all,az,aZ,bk]
 have h3:=Int.tmod_lt_of_pos x h1
 have h4:=Int.lt_tmod_of_pos x h1
 have h5:=Int.emod_nonneg x (show m≠0 by omega)
 have h6:=Int.emod_lt_of_pos x h1
 have h7:=Int.tmod_eq_emod (a:=x) (b:=m)
 have h8:∀{v:Int},v<0->v=x%m-((if 0<=x\/m∣x then 0 else m.natAbs:Nat):Int)->v+m=x%m:=fun {v} g1 g2=>by
  by_cases h:0<=x\/m∣x
  ·rw[if_pos h]at g2;omega
  ·rw[if_neg h]at g2;omega
 have h9:∀{v:Int},¬v<0->v=x%m-((if 0<=x\/m∣x then 0 else m.natAbs:Nat):Int)->v=x%m:=fun {v} g1 g2=>by
  by_cases h:0<=x\/m∣x
  ·rw[if_pos h]at g2;omega
  ·rw[if_neg h]at g2;omega
 refine⟨aa,fun hb=>bQ ?_,fun hb=>bQ (h9 hb h7)⟩
 rw[wrap_i64 aa aa]
 exact h8 hb h7
def Ry:Spec:=bX fun l=>match l with
 |[.int .i64 x,.int .i64 m]=>some (aK (.int .i64 (x%m)) [0<m,m<2^62])
 |_=>none
def GM:bg:=[(Cf,Ry)]
theorem abm:∀K args pre r,Ry K args pre=some r->aE P Cf K args pre r:=by
 refine cK fun K args r hk hs _=>?_
 split at hs
 ·simp only[ay]at hs
  subst hs
  exact fun need=>ahH need.1 need.2 K trivial
 ·simp at hs
theorem ali:bz P GM:=aL abm bO
theorem Xg {n:Nat} {z:Nat->Int} {a m:Int}:vK T GM [14] 60 DL (aA DL) ⟨aQ 0 [.ptr 0 0 2 0 [],.int .i64 m],[(0,jw n (fun i=>.int .i64 (z i)) a)],1⟩=
  let c4:Int:=IntKind.i64.wrap (a+(1:Int));let c3:Prop:=0<1;let c1:AV:=agg [aq 1 n fun i=>int IntKind.i64 (z i),int IntKind.i64 a];let c2:Int:=IntKind.i64.wrap (c4-(1:Int));some (ah.aj [c3,c3] (ah.fork (decide (a>=(↑n:Int))) (ah.leaf au.ret ([int IntKind.i64 (0:Int)],some (ak.mk false true 2 1 fun x=>c1))) (ah.aj [c3,c3] (ah.aj [c3,c3,(0:Int)<=c2/\c2.toNat<n,(0:Int)<m,m<(2:Int)^62] (ah.leaf au.ret ([int IntKind.i64 (z c2.toNat%m)],some (ak.mk false true 2 1 fun j=>if(j==0)=true then agg (c1.kids.set 1 (aV (int IntKind.i64 c4)))else c1))))))):=ag
def intOf:AV->Int
 |.int _ n=>n
 |_=>0
def dx (n:Nat) (f:Nat->AV) (a m:Int):Int:=if(n:Int)<=a then 0 else intOf (f a.toNat)%m
def bV (n:Nat) (a:Int):Int:=if(n:Int)<=a then a else a+1
structure dh (n:Nat) (f:Nat->AV) (a:Int):Prop where
 ints:∀i,f i=.int .i64 (intOf (f i))
 lo:0<=a
 hi:a<=n
 len:n<2^62
theorem dh.next {n:Nat} {f:Nat->AV} {a:Int} (h:dh n f a):dh n f (bV n a):=
 ⟨h.ints,by have:=h.lo;unfold bV;split<;>omega,by have:=h.hi;unfold bV;split<;>omega,h.len⟩
theorem iQ {n:Nat} {f:Nat->AV} {a m:Int} (hm:0<m):0<=dx n f a m:=by
 unfold dx;split
 ·omega
 ·exact Int.emod_nonneg _ aa
theorem iV {n:Nat} {f:Nat->AV} {a m:Int} (hm:0<m):dx n f a m<m:=by
 unfold dx;split
 ·omega
 ·exact Int.emod_lt_of_pos _ hm
theorem oB {ρ:Nat->Option Nat} {n:Nat} {f g:Nat->AV} {a b:Int} (h:f=g) (h2:a=b):cV ρ (jw n f a) (jw n g b):=by
 subst h h2
 exact⟨rfl,rfl,rfl,rfl,fun i hi=>aN rfl⟩
theorem aht {k n:Nat} {z:Nat->Int} {a m:Int} {o:ak} (ho:∀ρ,cV ρ o (jw n (fun i=>.int .i64 (z i)) a)) (h:dh n (fun i=>.int .i64 (z i)) a) (h1:0<m) (h2:m<2^62) (K:Nat):
  aE P uf K [.ptr k 0 2 0 [],.int .i64 m] [(k,o)] ⟨.int .i64 (dx n (fun i=>.int .i64 (z i)) a m),[(k,jw n (fun i=>.int .i64 (z i)) (bV n a))],[]⟩:=by
 refine Cm hT ali hm afi rfl rfl aX ho 60 Xg (fun _=>?_) K
 have h3:=h.lo
 have h4:=h.hi
 have h5:=h.len
 simp only[ah.all,az,aZ,bk]
 refine⟨⟨aa,aa⟩,fun hb=>⟨bQ ?_,_,rfl,rfl,?_⟩,fun hb=>⟨⟨aa,aa⟩,?_⟩⟩
 ·unfold dx;rw[if_pos aa]
 ·exact oB rfl (by unfold bV;rw[if_pos aa])
 have e1:IntKind.i64.wrap (a+1)=a+1:=wrap_i64 aa aa
 have e2:IntKind.i64.wrap (a+1-1)=a:=by rw[wrap_i64 aa aa];omega
 rw[e1,e2]
 refine⟨⟨aa,aa,aa,h1,h2⟩,bQ ?_,_,rfl,rfl,⟨rfl,rfl,rfl,rfl,fun i hi=>?_⟩⟩
 ·unfold dx;rw[if_neg aa];rfl
 ·rw[show i=0 by have:i<1:=hi;omega]
  show gu _ (.agg [.aq 1 n (fun i=>.int .i64 (z i)),.int .i64 (a+1)]) (.agg [.aq 1 n (fun i=>.int .i64 (z i)),.int .i64 (bV n a)])
  rw[show bV n a=a+1 by unfold bV;rw[if_neg aa]]
  exact aN rfl
def JQ (k:Nat) (pre:aF):Option (Nat×(Nat->AV)×Int):=match pre with
 |[(k',o)]=>if k==k'&&!o.row&&o.wr&&o.es==2&&o.len==1 then match o.f 0 with
  |.agg [.aq 1 n f,.int .i64 a]=>some (n,f,a)
  |_=>none
  else none
 |_=>none
def iW (g:Nat->(Nat->AV)->Int->List AV->Option (AV×Int×List Prop)):Spec:=fun _ args pre=>match args with
 |.ptr k 0 2 0 []::l=>match JQ k pre with
  |some (n,f,a)=>match g n f a l with
   |some (v,b,q)=>some ⟨v,[(k,jw n f b)],dh n f a::q⟩
   |none=>none
  |none=>none
 |_=>none
theorem Yg {k:Nat} {pre:aF} {n:Nat} {f:Nat->AV} {a:Int} (h:JQ k pre=some (n,f,a)):∃o,pre=[(k,o)]/\∀ρ,cV ρ o (jw n f a):=by
 unfold JQ at h
 split at h
 ·rename_i k' o
  split at h
  ·rename_i hc
   simp only[Bool.and_eq_true,beq_iff_eq,Bool.not_eq_true']at hc
   obtain⟨⟨⟨⟨rfl,h2⟩,h3⟩,h4⟩,h5⟩:=hc
   split at h
   ·rename_i n' f' a' hf
    simp only[ay,Prod.mk.injEq]at h
    obtain⟨rfl,rfl,rfl⟩:=h
    refine⟨o,rfl,fun ρ=>?_⟩
    obtain⟨row,wr,es,len,g⟩:=o
    simp only at h2 h3 h4 h5 hf
    subst h2 h3 h4 h5
    refine jq rfl fun i hi=>?_
    rw[show i=0 by omega,hf]
    exact aN rfl
   ·simp at h
  ·simp at h
 ·simp at h
theorem wm {fid:FuncId} {g:Nat->(Nat->AV)->Int->List AV->Option (AV×Int×List Prop)}
  (h:∀{k n:Nat} {z:Nat->Int} {a:Int} {l:List AV} {v:AV} {b:Int} {q:List Prop} {o:ak} (K:Nat),g n (fun i=>.int .i64 (z i)) a l=some (v,b,q)->(∀ρ,cV ρ o (jw n (fun i=>.int .i64 (z i)) a))->dh n (fun i=>.int .i64 (z i)) a->az q->aE P fid K (.ptr k 0 2 0 []::l) [(k,o)] ⟨v,[(k,jw n (fun i=>.int .i64 (z i)) b)],[]⟩):∀K args pre r,iW g K args pre=some r->aE P fid K args pre r:=by
 intro K args pre r hs
 unfold iW at hs
 split at hs
 ·rename_i k l
  split at hs
  ·rename_i n f a hd
   split at hs
   ·rename_i v b q hv
    simp only[ay]at hs
    subst hs
    obtain⟨o,rfl,ho⟩:=Yg hd
    intro need
    obtain⟨hd,hq⟩:=(eL (a:=[dh n f a]) (b:=q)).1 need
    have hd:dh n f a:=hd
    obtain⟨z,rfl⟩:∃z:Nat->Int,f=fun i=>.int .i64 (z i):=⟨fun i=>intOf (f i),funext fun i=>hd.ints i⟩
    exact h K hv ho hd hq trivial
   ·simp at hs
  ·simp at hs
 ·simp at hs
def vZ (n:Nat) (f:Nat->AV) (a:Int) (l:List AV):Option (AV×Int×List Prop):=match l with
 |[.int .i64 m]=>some (.int .i64 (dx n f a m),bV n a,[0<m,m<2^62])
 |_=>none
theorem Ci:∀K args pre r,iW vZ K args pre=some r->aE P uf K args pre r:=by
 refine wm fun {k n z a l v b q o} K hg ho hd hq=>?_
 unfold vZ at hg
 split at hg
 ·simp only[ay,Prod.mk.injEq]at hg
  obtain⟨rfl,rfl,rfl⟩:=hg
  exact aht ho hd hq.1 hq.2 K
 ·simp at hg
end Go.Am.B
