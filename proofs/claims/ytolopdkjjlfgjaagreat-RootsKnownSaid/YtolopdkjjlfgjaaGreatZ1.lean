/- 'opAV' is right, for every operation. -/
import Derived.Test.YtolopdkjjlfgjaaGreatZ0
import Derived.Laws.Cover3
import Derived.Laws.Strings
import Derived.Laws.BytesString
import Derived.Laws.Concat
import Derived.RangeFuncRecord
import Derived.Below
set_option linter.unusedVariables false
namespace Go.Am
open AV
section ops
variable {P:Program} {T:Types} (hT:eW P T) {Γ:bG} (hΓ:cm P Γ)
variable {c:Ctx} {st pre:aG} {D D':Nat->Prop} {β:aZ} {w:World}
include hT hΓ in
theorem Js (h:bk c st D β w) (hpre:∀k o,look k pre=some o->look k st=some o) (hD:∀k,D k->D' k) {K:Nat} (hK:∀k,K<=k->k<K+dn->¬D k/\D' k)
  {ρ:Operand->Option AV} {ev:Operand->Value} (hρ:∀x v,ρ x=some v->bK (aP c st β) w β v (ev x)) {o:Oper} {cl:Call} (ho:o.op=.call cl) {r:fC}
  (hr:lN T Γ K ρ pre cl=some r) (need:r.need):mB P (execOp ev o) w (fS c st D' β w r.cI r.val):=by
 have hK0:¬D K/\D' K:=hK K aX (by simp[dn])
 obtain⟨callee,args,argTypes⟩:=cl
 simp only[execOp,ho]
 cases callee with
 |value f=>
  simp only[lN]at hr
  cases hf:ρ f with
  |none=>grind
  |some fv=>
   cases ha:fI ρ args.toList with
   |none=>grind
   |some as'=>
    rw[hf,ha]at hr
    cases fv<;>simp only[reduceCtorEq]at hr
    case func g caps=>
     cases hs:look g Γ with
     |none=>grind
     |some s=>
      rw[hs]at hr
      simp at hr
      cases hq:s K (as'++caps) pre with
      |none=>grind
      |some q=>
       rw[hq]at hr
       simp at hr
       subst hr
       obtain⟨vs,hev,h1,h2⟩:=(hρ f _ hf).func
       have hargs:=cQ.append (oF hρ ha) (Hv h1 h2)
       have hinv:=(hΓ g s hs K _ pre q hq).use need h hpre hD hK hargs
       have hd:=hinv.FL
       have e1:(Array.map ev args)++vs.toArray=(List.map ev args.toList++vs).toArray:=by
        simp
       have:(do let d <-resolve ev {callee:=Callee.value f,args:=args,argTypes:=argTypes} o.type;invoke d.target d.args:Sem Next)=callFunc g (List.map ev args.toList++vs).toArray:=by
        rw[<-e1]
        simp only[resolve,hev,Deferred.ofValue]
        show callFunc g ((#[]++Array.map ev args)++vs.toArray)=_
        simp
       grind
 |invoke r m=>cases hr
 |builtin bi=>
  have hint:∀k n,bK (aP c st β) w β (.int k n) (.int k n):=fun k n=>bu.bT (.cL (.int .nil) rfl)
  have hres:(do let d <-resolve ev {callee:=Callee.builtin bi,args:=args,argTypes:=argTypes} o.type;invoke d.target d.args:Sem Next)=
    builtin bi argTypes o.type (args.map fun|.const _=>true|_=>false) (Array.map ev args):=rfl
  rw[hres]
  cases bi<;>simp only[lN,reduceCtorEq]at hr
  case len=>
   cases ht:argTypes[0]? with
   |none=>grind
   |some t=>
    cases ha:fI ρ args.toList with
    |none=>grind
    |some as'=>
     rw[ht,ha]at hr
     match as',ha,hr with
     |[x],ha,hr=>
      simp at hr
      have hv:=oF hρ ha
      obtain⟨xv,hxs,hx⟩:=hv.single
      have hargs:Array.map ev args=#[xv]:=by grind
      rw[hargs]
      cases htl:look t T with
      |none=>grind
      |some ti=>
       rw[htl]at hr
       obtain⟨d,sz,by',z⟩:=ti
       have hu:=(hT t _ htl).dN
       cases d<;>simp only[reduceCtorEq]at hr
       case slice e=>
        cases hn:lenOf x with
        |none=>grind
        |some n=>
         rw[hn]at hr
         simp only[cD,aB]at hr
         subst hr
         obtain⟨base,cap,rfl⟩:=adg hx hn
         refine cZ (x:=.int .i64 n) (w':=w) ?_ (eO h hD (hint _ _))
         simp[builtin,Builtin.len_,ht,run_underlying hu,goInt]
       case array n e=>
        simp only[cD,aB]at hr
        subst hr
        refine cZ (x:=.int .i64 n) (w':=w) ?_ (eO h hD (hint _ _))
        simp[builtin,Builtin.len_,ht,run_underlying hu,goInt]
     |[],ha,hr=>grind
     |_::_::_,ha,hr=>grind
  case cap=>
   cases ht:argTypes[0]? with
   |none=>grind
   |some t=>
    cases ha:fI ρ args.toList with
    |none=>grind
    |some as'=>
     rw[ht,ha]at hr
     match as',ha,hr with
     |[x],ha,hr=>
      cases x<;>simp only[reduceCtorEq]at hr
      case nil=>
       have hv:=oF hρ ha
       obtain⟨xv,hxs,hx⟩:=hv.single
       have hargs:Array.map ev args=#[xv]:=by grind
       rw[hargs]
       cases htl:look t T with
       |none=>rw[htl]at hr;simp at hr
       |some ti=>
        rw[htl]at hr
        obtain⟨d,sz,by',z⟩:=ti
        have hu:=(hT t _ htl).dN
        cases d<;>simp only[reduceCtorEq]at hr
        case slice e=>
         simp only[cD,aB]at hr
         subst hr
         have hxn:=hx.bT.nil
         subst hxn
         refine cZ (x:=.int .i64 0) (w':=w) ?_ (eO h hD (hint _ _))
         simp[builtin,Builtin.cap_,ht,run_underlying hu,goInt]
     |[],ha,hr=>simp at hr
     |_::_::_,ha,hr=>simp at hr
  case append=>
   cases ht:argTypes[0]? with
   |none=>rw[ht]at hr;simp at hr
   |some t=>
    cases ht2:argTypes[1]? with
    |none=>rw[ht,ht2]at hr;simp at hr
    |some t'=>
     cases ha:fI ρ args.toList with
     |none=>rw[ht,ht2,ha]at hr;simp at hr
     |some as'=>
      rw[ht,ht2,ha]at hr
      match as',ha,hr with
      |[x,y],ha,hr=>
       simp only at hr
       have hv:=oF hρ ha
       obtain⟨xv,yv,hxs,hx,hy⟩:=hv.two
       have hargs:Array.map ev args=#[xv,yv]:=by apply Array.ext';simpa using hxs
       rw[hargs]
       have hat:∀s,(Builtin.append_ argTypes o.type #[s,yv]).run P w=(Builtin.append_ #[t,t'] o.type #[s,yv]).run P w:=fun s=>by
        simp only[Builtin.append_,ht,ht2]
        rfl
       cases htl:look t T with
       |none=>rw[htl]at hr;simp at hr
       |some ti=>
        cases htl2:look t' T with
        |none=>rw[htl,htl2]at hr;obtain⟨d,_,_,_⟩:=ti;cases d<;>simp at hr
        |some ti'=>
         rw[htl,htl2]at hr
         obtain⟨d,sz,by',z⟩:=ti
         obtain⟨d',sz',by'',z'⟩:=ti'
         cases d<;>cases d'<;>simp only[reduceCtorEq]at hr
         case slice.int e k'=>
          cases x<;>try (simp only[reduceCtorEq]at hr)
          case nil=>
           cases y<;>try (simp only[reduceCtorEq]at hr)
           case int ky n=>
            cases ky<;>try (simp only[reduceCtorEq]at hr)
            case i64=>
             cases he:look e T with
             |none=>rw[he]at hr;simp at hr
             |some ei=>
              rw[he]at hr
              simp only at hr
              split at hr
              ·simp at hr
              ·rename_i hc
               simp only[Bool.or_eq_true,beq_iff_eq,bne_iff_ne,ne_eq,not_or,Bool.not_eq_true,Decidable.not_not]at hc
               simp only[aB]at hr
               subst hr
               obtain⟨⟨⟨c1,c2⟩,c3⟩,c4⟩:=hc
               subst c1
               have hxn:=hx.bT.nil
               subst hxn
               have hyn:=hy.bT.int
               subst hyn
               obtain⟨zv,w',hrun,hR⟩:=aat w hT (ty:=o.type) h hD hK0.1 hK0.2 htl htl2 rfl rfl he c2 c3 c4 need.1 need.2
               refine cZ ?_ hR
               simp only[builtin,Sem.run_bind,hat,hrun,Result.andThen_ok,Sem.run_pure]
         case slice.slice e e'=>
          cases he:look e T with
          |none=>rw[he]at hr;simp at hr
          |some ei=>
           rw[he]at hr
           simp only at hr
           cases hra:readAll pre ei.size y with
           |none=>rw[hra]at hr;cases x<;>simp at hr
           |some mg=>
            obtain⟨m,g⟩:=mg
            rw[hra]at hr
            cases x<;>try (simp only[reduceCtorEq]at hr)
            case nil=>
             split at hr
             ·simp at hr
             ·rename_i hc
              simp only[Bool.or_eq_true,beq_iff_eq,bne_iff_ne,ne_eq,not_or,Bool.not_eq_true,Decidable.not_not]at hc
              simp only[aB]at hr
              subst hr
              have:=hx.bT.nil
              subst this
              have hb:(0<m\/m=0)/\m*(ei.bytes+1)*2<=2^47:=by
               refine⟨aa,?_⟩
               unfold fC.need at need
               cases hz:CO Γ with
               |true=>rw[hz]at need;exact need
               |false=>rw[hz]at need;exact need.2
              obtain⟨hb1,hb2⟩:=hb
              rcases hb1 with hb1|hb1
              ·obtain⟨zv,w',hrun,hR⟩:=SX hT (ty:=o.type) h hpre hD hK0.1 hK0.2 htl htl2 rfl rfl he hc.1.1 hc.1.2 hc.2 hy.bT hra hb1 hb2
               refine cZ ?_ hR
               simp only[builtin,Sem.run_bind,hat,hrun,Result.andThen_ok,Sem.run_pure]
              ·subst hb1
               obtain⟨zv,w',hrun,hR⟩:=Ym hT (ty:=o.type) h hpre hD hK0.1 hK0.2 htl htl2 rfl rfl he hc.1.1 hc.2 hy.bT hra
               refine cZ ?_ hR
               simp only[builtin,Sem.run_bind,hat,hrun,Result.andThen_ok,Sem.run_pure]
            case own k es s n=>
             cases s with
             |succ s=>exact absurd (show(none:Option fC)=some r from hr) (by simp)
             |zero=>
              simp only at hr
              cases hk:look k pre with
              |none=>rw[hk]at hr;simp at hr
              |some ob=>
               rw[hk]at hr
               simp only at hr
               split at hr
               ·rename_i hc
                simp only[Bool.and_eq_true,beq_iff_eq,bne_iff_ne,ne_eq,Bool.not_eq_true']at hc
                obtain⟨⟨⟨⟨⟨⟨⟨c1,c2⟩,c3⟩,c4⟩,c5⟩,c6⟩,c7⟩,c8⟩:=hc
                simp only[aB]at hr
                subst hr
                subst c4
                obtain⟨zv,w',hrun,hR,_⟩:=IP hT (ty:=o.type) h hpre hD hK0.1 hK0.2 htl htl2 rfl rfl he c5 c6 c7 hy.bT hra hx.bT (hpre k ob hk) c1 c2 c3 need
                refine cZ ?_ hR
                simp only[builtin,Sem.run_bind,hat,hrun,Result.andThen_ok,Sem.run_pure]
               ·simp at hr
      |[],ha,hr=>simp at hr
      |[_],ha,hr=>simp at hr
      |_::_::_::_,ha,hr=>simp at hr
  case copy=>
   cases ht:argTypes[0]? with
   |none=>rw[ht]at hr;simp at hr
   |some t=>
    cases ht2:argTypes[1]? with
    |none=>rw[ht,ht2]at hr;simp at hr
    |some t'=>
     cases ha:fI ρ args.toList with
     |none=>rw[ht,ht2,ha]at hr;simp at hr
     |some as'=>
      rw[ht,ht2,ha]at hr
      match as',ha,hr with
      |[x,y],ha,hr=>
       simp only at hr
       have hv:=oF hρ ha
       obtain⟨xv,yv,hxs,hx,hy⟩:=hv.two
       have hargs:Array.map ev args=#[xv,yv]:=by apply Array.ext';simpa using hxs
       rw[hargs]
       have hat:∀s,(Builtin.copy_ argTypes o.type #[s,yv]).run P w=(Builtin.copy_ #[t,t'] o.type #[s,yv]).run P w:=fun s=>by
        simp only[Builtin.copy_,ht]
        rfl
       cases htl:look t T with
       |none=>rw[htl]at hr;simp at hr
       |some ti=>
        cases htl2:look t' T with
        |none=>rw[htl,htl2]at hr;obtain⟨d,_,_,_⟩:=ti;cases d<;>simp at hr
        |some ti'=>
         rw[htl,htl2]at hr
         obtain⟨d,sz,by',z⟩:=ti
         obtain⟨d',sz',by'',z'⟩:=ti'
         cases d<;>cases d'<;>simp only[reduceCtorEq]at hr
         case slice.slice e e'=>
          cases he:look e T with
          |none=>rw[he]at hr;simp at hr
          |some ei=>
           rw[he]at hr
           simp only at hr
           cases hra:readAll pre ei.size y with
           |none=>rw[hra]at hr;cases x<;>simp at hr
           |some mg=>
            obtain⟨m,g⟩:=mg
            rw[hra]at hr
            cases x<;>simp only[reduceCtorEq]at hr
            case own k es s n=>
             cases hk:look k pre with
             |none=>rw[hk]at hr;simp at hr
             |some ob=>
              rw[hk]at hr
              simp only at hr
              split at hr
              ·rename_i hc
               simp only[Bool.and_eq_true,beq_iff_eq,Bool.not_eq_true']at hc
               obtain⟨⟨⟨⟨c1,c2⟩,c3⟩,c4⟩,c5⟩:=hc
               simp only[aB]at hr
               subst hr
               subst c4
               obtain⟨zv,w',hrun,hR⟩:=Ru hT (t':=t') (ty:=o.type) h hpre hD htl rfl he hy.bT hra hx.bT (hpre k ob hk) c1 c2 c3
               refine cZ ?_ hR
               simp only[builtin,Sem.run_bind,hat,hrun,Result.andThen_ok,Sem.run_pure]
              ·simp at hr
      |[],ha,hr=>simp at hr
      |[_],ha,hr=>simp at hr
      |_::_::_::_,ha,hr=>simp at hr
  case clear=>
   cases ht:argTypes[0]? with
   |none=>rw[ht]at hr;simp at hr
   |some t=>
    cases ha:fI ρ args.toList with
    |none=>rw[ht,ha]at hr;simp at hr
    |some as'=>
     rw[ht,ha]at hr
     match as',ha,hr with
     |[x],ha,hr=>
      cases x<;>simp only[reduceCtorEq]at hr
      case own k es s n=>
       have hv:=oF hρ ha
       obtain⟨xv,hxs,hx⟩:=hv.single
       have hargs:Array.map ev args=#[xv]:=by apply Array.ext';simpa using hxs
       rw[hargs]
       have hat:∀s,(Builtin.clear_ argTypes o.type #[s]).run P w=(Builtin.clear_ #[t] o.type #[s]).run P w:=fun s=>by
        simp only[Builtin.clear_,ht]
        rfl
       cases htl:look t T with
       |none=>rw[htl]at hr;simp at hr
       |some ti=>
        rw[htl]at hr
        obtain⟨d,sz,by',z⟩:=ti
        cases d<;>simp only[reduceCtorEq]at hr
        case slice e=>
         cases he:look e T with
         |none=>rw[he]at hr;simp at hr
         |some ei=>
          cases hk:look k pre with
          |none=>rw[he,hk]at hr;simp at hr
          |some ob=>
           rw[he,hk]at hr
           simp only at hr
           split at hr
           ·rename_i hc
            simp only[Bool.and_eq_true,beq_iff_eq,Bool.not_eq_true']at hc
            obtain⟨⟨⟨⟨⟨c1,c2⟩,c3⟩,c4⟩,c5⟩,c6⟩:=hc
            simp only[aB]at hr
            subst hr
            subst c4
            obtain⟨zv,w',hrun,hR⟩:=PW hT (ty:=o.type) h hD htl rfl he c5 c6 hx.bT (hpre k ob hk) c1 c2 c3
            refine cZ ?_ hR
            simp only[builtin,Sem.run_bind,hat,hrun,Result.andThen_ok,Sem.run_pure]
           ·simp at hr
     |[],ha,hr=>simp at hr
     |_::_::_,ha,hr=>simp at hr
  case min=>
   cases ha:fI ρ args.toList with
   |none=>rw[ha]at hr;simp at hr
   |some as'=>
    rw[ha]at hr
    match as',ha,hr with
    |[.int k a,.int j b],ha,hr=>
     simp only at hr
     split at hr
     ·rename_i hk
      have:=Ak hk
      subst this
      simp only[cD,aB]at hr
      subst hr
      obtain⟨xv,yv,hxs,hx,hy⟩:=(oF hρ ha).two
      have hargs:Array.map ev args=#[xv,yv]:=by apply Array.ext';simpa using hxs
      rw[hargs,hx.BB,hy.BB]
      refine cZ (x:=.int k (if b<a then b else a)) (w':=w) ?_ (eO h hD (hint _ _))
      simp[builtin,Builtin.min_,Builtin.min2]
     ·simp at hr
  case max=>
   cases ha:fI ρ args.toList with
   |none=>rw[ha]at hr;simp at hr
   |some as'=>
    rw[ha]at hr
    match as',ha,hr with
    |[.int k a,.int j b],ha,hr=>
     simp only at hr
     split at hr
     ·rename_i hk
      have:=Ak hk
      subst this
      simp only[cD,aB]at hr
      subst hr
      obtain⟨xv,yv,hxs,hx,hy⟩:=(oF hρ ha).two
      have hargs:Array.map ev args=#[xv,yv]:=by apply Array.ext';simpa using hxs
      rw[hargs,hx.BB,hy.BB]
      refine cZ (x:=.int k (if a<b then b else a)) (w':=w) ?_ (eO h hD (hint _ _))
      simp[builtin,Builtin.max_,Builtin.max2]
     ·simp at hr
end ops
end Go.Am
namespace Go.Am
open AV
section ops
variable {P:Program} {T:Types} (hT:eW P T) {Γ:bG} (hΓ:cm P Γ)
variable {c:Ctx} {st pre:aG} {D D':Nat->Prop} {β:aZ} {w:World}
omit hT hΓ in
theorem VB {v:AV} {k:Nat} {o:aC} (h:yF pre v=some (k,o)):v=.ptr k 0 o.es 0 []/\look k pre=some o/\o.row=false/\o.len=1/\(o.f 0).keys=[]:=by
 unfold yF at h
 split at h
 ·split at h
  ·split at h
   ·rename_i hc
    simp only[aB,Prod.mk.injEq]at h
    obtain⟨rfl,rfl⟩:=h
    simp only[Bool.and_eq_true,Bool.not_eq_true',beq_iff_eq,List.isEmpty_iff]at hc
    obtain⟨⟨⟨⟨h1,h2⟩,h3⟩,h4⟩,_⟩:=hc
    subst h2
    exact⟨rfl,‹_›,h1,h3,h4⟩
   ·simp at h
  ·simp at h
 ·simp at h
omit hT hΓ in
theorem Zx {st:aG} (h:bk c st D β w) (hpre:∀k o,look k pre=some o->∃o',look k st=some o'/\(o'=o\/o'={o with wr:=false})):
  ∀{l:List AV} {cs:List Value},aQ (aP c st β) w β l cs->bk c (dm (sn pre l) st) D β w/\dD (aP c st β) w β (aP c (dm (sn pre l) st) β) w β/\aQ (aP c (dm (sn pre l) st) β) w β (vw pre l) cs:=by
 intro l
 induction l generalizing st with
 |nil=>exact fun hc=>⟨h,dD.refl _ _ _,hc⟩
 |cons v l ih=>
  intro cs hc
  obtain⟨c1,c2,rfl,h1,h2⟩:=hc.split
  unfold sn vw
  cases hv:yF pre v with
  |none=>
   obtain⟨q1,q2,q3⟩:=ih h hpre h2
   exact⟨q1,q2,(h1.jf q2).cons q3⟩
  |some p=>
   obtain⟨k,o⟩:=p
   obtain⟨rfl,a2,a3,a4,a5⟩:=VB hv
   obtain⟨o',b1,b2⟩:=hpre k o a2
   have b3:({o' with wr:=false}:aC)={o with wr:=false}:=by rcases b2 with rfl|rfl<;>rfl
   obtain⟨f1,f2⟩:=h.freeze b1
   rw[b3]at f1 f2
   have hpre':∀k' o1,look k' pre=some o1->∃o2,look k' (put k {o with wr:=false} st)=some o2/\(o2=o1\/o2={o1 with wr:=false}):=fun k' o1 hk'=>by
    by_cases hkk:k'=k
    ·subst hkk
     rw[a2]at hk'
     simp only[aB]at hk'
     subst hk'
     exact⟨_,jz,.inr rfl⟩
    ·rw[gR hkk];exact hpre k' o1 hk'
   obtain⟨q1,q2,q3⟩:=ih f1 hpre' (h2.jf f2)
   simp only[dm]
   refine⟨q1,f2.trans q2,?_⟩
   cases h1 with
   |ptr hb hn=>
    cases hn
    rename_i b N
    obtain⟨b',N',cells,ty,e1,e2,e3,e4,e5,e6,e7,e8⟩:=f1.obj k _ jz _ hb
    rw[hb]at e1
    simp only[aB,Prod.mk.injEq]at e1
    obtain⟨rfl,rfl⟩:=e1
    obtain⟨ps,g1,g2,g3⟩:=e8 0 (by simp only[a4];omega)
    have g2:aQ _ w (if o.row=true then bz else β) [o.f 0] ps:=g2
    have g4:aQ (aP c (put k {o with wr:=false} st) β) w bz [o.f 0] ps:=zZ g2 (by simp[bV,a5])
    have hin:iK (aP c (put k {o with wr:=false} st) β) w b 0 ps:=⟨cells,ty,_,e2,e7 rfl,fun i u hu=>by have:=g3 i u hu;rw[Nat.zero_mul,Nat.zero_add]at this;rw[Nat.zero_add];exact this⟩
    have hz:0*o.es+0=0:=aa
    rw[hz]
    exact(aQ.bW (g4.pC q2) (hin.mono q2.heap) .nil).cons q3
include hT hΓ in
theorem vF (h:bk c st D β w) (hpre:∀k o,look k pre=some o->look k st=some o) (hD:∀k,D k->D' k) {K:Nat} (hK:∀k,K<=k->k<K+dn->¬D k/\D' k)
  {ρ:Operand->Option AV} {ev:Operand->Value} (hρ:∀x v,ρ x=some v->bK (aP c st β) w β v (ev x)) {o:Oper} {r:fC}
  (hr:gh T Γ K ρ pre o.op=some r) (need:r.need):mB P (execOp ev o) w (fS c st D' β w r.cI r.val):=by
 have hK0:¬D K/\D' K:=hK K aX (by simp[dn])
 have hint:∀k n,bK (aP c st β) w β (.int k n) (.int k n):=fun k n=>bu.bT (.cL (.int .nil) rfl)
 have hbool:∀t,bK (aP c st β) w β (.bool t) (.bool t):=fun t=>bu.bT (.cL (.bool .nil) rfl)
 obtain⟨dst,op,type,pos,after,guard⟩:=o
 cases op
 case call cl=>exact Js hT hΓ h hpre hD hK hρ rfl (by simpa [gh]using hr) need
 all_goals simp only[gh,reduceCtorEq]at hr
 case move x=>
  cases hx:ρ x with
  |none=>rw[hx]at hr;simp at hr
  |some v=>
   rw[hx]at hr
   simp only[cD,aB]at hr
   subst hr
   exact cZ (x:=ev x) (w':=w) rfl (eO h hD (hρ x v hx))
 case assign x=>
  cases hx:ρ x with
  |none=>rw[hx]at hr;simp at hr
  |some v=>
   rw[hx]at hr
   simp only[cD,aB]at hr
   subst hr
   exact cZ (x:=ev x) (w':=w) rfl (eO h hD (hρ x v hx))
 case pick cnd a b=>
  cases hc:ρ cnd with
  |none=>rw[hc]at hr;simp at hr
  |some cv=>
   rw[hc]at hr
   cases cv<;>simp only[reduceCtorEq]at hr
   case bool t=>
    have hev:=(hρ cnd _ hc).bool
    cases ha:ρ a with
    |none=>rw[ha]at hr;simp at hr
    |some av=>
     cases hb:ρ b with
     |none=>rw[ha,hb]at hr;cases av<;>simp at hr
     |some bv=>
      rw[ha,hb]at hr
      have hrun:(execOp ev {dst:=dst,op:=Op.pick cnd a b,type:=type,pos:=pos,after:=after,guard:=guard}).run P w=.ok (.value (if t then ev a else ev b)) w:=by
       simp[execOp,hev,asBool]
      cases t with
      |true=>
       have hr':r=⟨av,[],[]⟩:=by cases av<;>cases bv<;>simp[cD]at hr<;>exact hr.symm
       subst hr'
       exact cZ hrun (eO h hD (by simpa using hρ a av ha))
      |false=>
       have hr':r=⟨bv,[],[]⟩:=by cases av<;>cases bv<;>simp[cD]at hr<;>exact hr.symm
       subst hr'
       exact cZ hrun (eO h hD (by simpa using hρ b bv hb))
 case alloc t=>
  cases ht:look t T with
  |none=>rw[ht]at hr;simp at hr
  |some ti=>
   rw[ht]at hr
   simp only at hr
   split at hr
   ·simp at hr
   ·rename_i hc
    simp only[Bool.or_eq_true,beq_iff_eq,bne_iff_ne,ne_eq,not_or,Bool.not_eq_true,Decidable.not_not]at hc
    simp only[aB]at hr
    subst hr
    obtain⟨x,w',hrun,hR⟩:=aei hT h hD hK0.1 hK0.2 ht hc.1.1 hc.1.2 hc.2
    refine cZ ?_ hR
    simp only[execOp,Sem.run_bind,hrun,Result.andThen_ok,Sem.run_pure]
 case box t x=>
  cases hx:ρ x with
  |none=>rw[hx]at hr;simp at hr
  |some v=>
   rw[hx]at hr
   simp only at hr
   split at hr
   ·simp at hr
   ·rename_i hc
    simp only[Bool.or_eq_true,beq_iff_eq,not_or,Bool.not_eq_true]at hc
    simp only[aB]at hr
    subst hr
    obtain⟨y,w',hrun,hR⟩:=Uw (P:=P) (t:=t) h hD hK0.1 hK0.2 ((hρ x v hx).one hc.2) hc.1
    refine cZ ?_ hR
    simp only[execOp,Sem.run_bind,hrun,Result.andThen_ok,Sem.run_pure]
 case build t ps=>
  cases ht:look t T with
  |none=>rw[ht]at hr;simp at hr
  |some ti=>
   cases hp:kZ ρ ps.toList with
   |none=>rw[ht,hp]at hr;simp at hr
   |some l=>
    rw[ht,hp]at hr
    simp only at hr
    split at hr
    ·simp at hr
    ·rename_i hc
     simp only[Bool.or_eq_true,Bool.not_eq_true',not_or,Bool.not_eq_false]at hc
     cases hs:tH T ti.desc ti.zero.kids l with
     |none=>rw[hs]at hr;simp at hr
     |some m=>
      rw[hs]at hr
      simp only[cD,aB]at hr
      subst hr
      obtain⟨y,hrun,hR⟩:=Ul hT (w:=w) ht (cQ.parts hρ hp) hc.2 hs hc.1
      refine cZ (x:=y) (w':=w) ?_ (eO h hD hR.bT)
      have e1:(Array.map (fun x:Nat×Operand=>match x with|(i,x)=>(i,ev x)) ps)=(List.map (fun p:Nat×Operand=>(p.1,ev p.2)) ps.toList).toArray:=by
       apply Array.ext';simp
      simp only[execOp,Sem.run_bind,e1,hrun,Result.andThen_ok,Sem.run_pure]
 case buildSlice t n ps=>
  cases ht:look t T with
  |none=>rw[ht]at hr;simp at hr
  |some ti=>
   cases hp:kZ ρ ps.toList with
   |none=>rw[ht,hp]at hr;obtain⟨d,_,_,_⟩:=ti;cases d<;>simp at hr
   |some l=>
    rw[ht,hp]at hr
    obtain⟨d,sz,by',z⟩:=ti
    cases d<;>simp only[reduceCtorEq]at hr
    case slice e=>
     cases he:look e T with
     |none=>rw[he]at hr;simp at hr
     |some ei=>
      rw[he]at hr
      simp only at hr
      split at hr
      ·simp at hr
      ·rename_i hc
       simp only[Bool.or_eq_true,beq_iff_eq,bne_iff_ne,ne_eq,not_or,Bool.not_eq_true,Decidable.not_not]at hc
       cases hs:tC ei.size (List.replicate n ei.zero) l with
       |none=>rw[hs]at hr;simp at hr
       |some m=>
        rw[hs]at hr
        simp only at hr
        cases hf:fW pre m with
        |none=>rw[hf]at hr;simp at hr
        |some m'=>
         rw[hf]at hr
         simp only[aB]at hr
         subst hr
         obtain⟨y,w',hrun,hR⟩:=PG hT h hpre hD hK0.1 hK0.2 ht rfl he hc.1.1 hc.1.2 hc.2 (cQ.parts hρ hp) hs hf need
         refine cZ ?_ hR
         have e1:(Array.map (fun x:Nat×Operand=>match x with|(i,x)=>(i,ev x)) ps)=(List.map (fun p:Nat×Operand=>(p.1,ev p.2)) ps.toList).toArray:=by
          apply Array.ext';simp
         simp only[execOp,Sem.run_bind,e1,hrun,Result.andThen_ok,Sem.run_pure]
 case load t a=>
  cases ht:look t T with
  |none=>rw[ht]at hr;simp at hr
  |some ti=>
   cases ha:ρ a with
   |none=>rw[ht,ha]at hr;simp at hr
   |some p=>
    rw[ht,ha]at hr
    simp only at hr
    obtain⟨e1,y,hrun,hR⟩:=Iu hT h hpre ht (hρ a p ha) hr need
    refine cZ (x:=y) (w':=w) ?_ (by rw[e1];exact eO h hD hR.bT)
    simp only[execOp,Sem.run_bind,hrun,Result.andThen_ok,Sem.run_pure]
 case store t a x=>
  cases ht:look t T with
  |none=>rw[ht]at hr;simp at hr
  |some ti=>
   cases ha:ρ a with
   |none=>rw[ht,ha]at hr;simp at hr
   |some p=>
    cases hx:ρ x with
    |none=>rw[ht,ha,hx]at hr;simp at hr
    |some v=>
     rw[ht,ha,hx]at hr
     simp only at hr
     obtain⟨w',hrun,hR⟩:=aal hT h hpre hD ht (hρ a p ha) (hρ x v hx) hr need
     refine .inr (.inl ⟨w',?_,hR⟩)
     simp only[execOp,Sem.run_bind,hrun,Result.andThen_ok,Sem.run_pure]
 case nilCheck x=>
  cases hx:ρ x with
  |none=>rw[hx]at hr;simp at hr
  |some v=>
   rw[hx]at hr
   have hv:=hρ x v hx
   cases v<;>simp only[cD,aB,reduceCtorEq]at hr
   case ptr=>
    subst hr
    obtain⟨b,N,_,he⟩:=hv.ptr
    refine cZ (x:=ev x) (w':=w) ?_ (eO h hD hv)
    simp[execOp,he]
   case bW=>
    subst hr
    obtain⟨b,o,ps,he,_⟩:=hv.bW
    refine cZ (x:=ev x) (w':=w) ?_ (eO h hD hv)
    simp[execOp,he]
   case func=>
    subst hr
    obtain⟨vs,he,_⟩:=hv.func
    refine cZ (x:=ev x) (w':=w) ?_ (eO h hD hv)
    simp[execOp,he]
 case binOp op t x y ty=>
  cases hx:ρ x with
  |none=>rw[hx]at hr;simp at hr
  |some a=>
   cases hy:ρ y with
   |none=>rw[hx,hy]at hr;simp at hr
   |some b=>
    rw[hx,hy]at hr
    simp only at hr
    obtain⟨e1,z,hrun,hR⟩:=M6 hT (op:=op) (t:=t) (t':=t) (x:=x) (y:=y) (hρ x a hx) (hρ y b hy) hr need
    refine cZ (x:=z) (w':=w) ?_ (by rw[e1];exact eO h hD hR.bT)
    simp only[execOp]
    rw[Sem.run_bind,hrun]
    rfl
 case unOp op t x=>
  cases hx:ρ x with
  |none=>rw[hx]at hr;cases op<;>simp at hr
  |some v=>
   rw[hx]at hr
   have hv:=hρ x v hx
   cases op<;>cases v<;>simp only[cD,aB,reduceCtorEq]at hr
   case not.bool b=>
    subst hr
    have:=hv.bool
    refine cZ (x:=.bool (!b)) (w':=w) ?_ (eO h hD (hbool _))
    simp[execOp,this,Op.unary]
   case neg.int k n=>
    subst hr
    have:=hv.int
    refine cZ (x:=.int k (k.wrap (0-n))) (w':=w) ?_ (eO h hD (hint _ _))
    simp[execOp,this,Op.unary,Op.intArith]
   case xor.int k n=>
    subst hr
    have:=hv.int
    refine cZ (x:=.int k (k.wrap ((BitVec.ofInt k.bits (if k.signed then-1 else k.max)^^^BitVec.ofInt k.bits n).toNat:Int))) (w':=w) ?_ (eO h hD (hint _ _))
    simp only[execOp,this,Op.unary,Op.intBits]
    rfl
 case convert s d x=>
  cases hs:look s T with
  |none=>rw[hs]at hr;simp at hr
  |some si=>
   cases hd:look d T with
   |none=>rw[hs,hd]at hr;obtain⟨sd,_,_,_⟩:=si;cases sd<;>simp at hr
   |some di=>
    rw[hs,hd]at hr
    obtain⟨sd,_,_,_⟩:=si
    obtain⟨dd,_,_,_⟩:=di
    cases sd<;>cases dd<;>try (simp only[reduceCtorEq]at hr;done)
    case int.int k1 k=>
     cases hx:ρ x with
     |none=>rw[hx]at hr;simp at hr
     |some v=>
      rw[hx]at hr
      have hv:=hρ x v hx
      cases v<;>simp only[cD,aB,reduceCtorEq]at hr
      case int k2 n=>
       subst hr
       have hev:=hv.int
       have hus:=(hT _ _ hs).dN
       have hud:=(hT _ _ hd).dN
       refine cZ (x:=.int k (k.wrap n)) (w':=w) ?_ (eO h hD (hint _ _))
       simp[execOp,hev,convert,run_underlying hus,run_underlying hud,Conv.intToInt]
 case sliceToArrayPointer t x=>
  cases ht:look t T with
  |none=>rw[ht]at hr;simp at hr
  |some ti=>
   cases hx:ρ x with
   |none=>rw[ht,hx]at hr;obtain⟨d,_,_,_⟩:=ti;cases d<;>simp at hr
   |some v=>
    rw[ht,hx]at hr
    have hv:=hρ x v hx
    obtain⟨d,sz,by',z⟩:=ti
    cases d<;>try (simp only[reduceCtorEq]at hr;done)
    case array m e=>
     cases v<;>try (simp only[reduceCtorEq]at hr;done)
     case az es n f=>
      simp only at hr
      cases he:look e T with
      |none=>rw[he]at hr;simp at hr
      |some ei=>
       rw[he]at hr
       simp only at hr
       split at hr
       ·rename_i hc
        simp only[Bool.and_eq_true,beq_iff_eq,bne_iff_ne,ne_eq]at hc
        simp only[aB]at hr
        subst hr
        obtain⟨zv,hrun,hR⟩:=Wt hT h hD ht rfl hv hc.2 need
        refine cZ ?_ hR
        simp only[execOp,Sem.run_bind,hrun,Result.andThen_ok,Sem.run_pure]
       ·simp at hr
 case makeSlice t l cp=>
  cases ht:look t T with
  |none=>rw[ht]at hr;simp at hr
  |some ti=>
   cases hl:ρ l with
   |none=>rw[ht,hl]at hr;obtain⟨d,_,_,_⟩:=ti;cases d<;>simp at hr
   |some lv=>
    cases hc:ρ cp with
    |none=>rw[ht,hl,hc]at hr;obtain⟨d,_,_,_⟩:=ti;cases d<;>cases lv<;>(try (rename_i k _;cases k))<;>simp at hr
    |some cv=>
     rw[ht,hl,hc]at hr
     obtain⟨d,sz,by',z⟩:=ti
     cases d<;>try (simp only[reduceCtorEq]at hr;done)
     case slice e=>
      have hlv:=hρ l lv hl
      have hcv:=hρ cp cv hc
      cases lv<;>try (simp only[reduceCtorEq]at hr;done)
      case int k n=>
       cases k<;>try (simp only[reduceCtorEq]at hr;done)
       case i64=>
        cases cv<;>try (simp only[reduceCtorEq]at hr;done)
        case int k m=>
         cases k<;>try (simp only[reduceCtorEq]at hr;done)
         case i64=>
          simp only at hr
          cases he:look e T with
          |none=>rw[he]at hr;simp at hr
          |some ei=>
           rw[he]at hr
           simp only at hr
           split at hr
           ·simp at hr
           ·rename_i hcc
            simp only[Bool.or_eq_true,beq_iff_eq,bne_iff_ne,ne_eq,not_or,Bool.not_eq_true,Decidable.not_not]at hcc
            simp only[aB]at hr
            subst hr
            obtain⟨x,w',hrun,hR,_⟩:=LY hT h hD hK0.1 hK0.2 ht rfl he hcc.1.1 hcc.1.2 hcc.2 need.1 need.2.1 need.2.2.1 need.2.2.2
            refine cZ ?_ hR
            simp only[execOp,Sem.run_bind,hlv.int,hcv.int,hrun,Result.andThen_ok,Sem.run_pure]
 case slice t x lo hi mx=>
  cases ht:look t T with
  |none=>rw[ht]at hr;simp at hr
  |some ti=>
   cases hx:ρ x with
   |none=>rw[ht,hx]at hr;obtain⟨d,_,_,_⟩:=ti;cases d<;>simp at hr
   |some v=>
    rw[ht,hx]at hr
    obtain⟨d,sz,by',z⟩:=ti
    cases d<;>simp only[reduceCtorEq]at hr
    case slice e=>
     cases he:look e T with
     |none=>rw[he]at hr;simp at hr
     |some ei=>
      cases hn:lenOf v with
      |none=>rw[he,hn]at hr;simp at hr
      |some n=>
       rw[he,hn]at hr
       simp only at hr
       cases hl:cR ρ 0 lo with
       |none=>rw[hl]at hr;simp at hr
       |some l=>
        cases hh:cR ρ n hi with
        |none=>rw[hl,hh]at hr;simp at hr
        |some hv=>
         rw[hl,hh]at hr
         simp only at hr
         cases hm:cR ρ hv mx with
         |none=>rw[hm]at hr;simp at hr
         |some m=>
          rw[hm]at hr
          simp only at hr
          split at hr
          ·simp at hr
          ·rename_i hmx
           simp only[Bool.and_eq_true,not_and,Bool.not_eq_true]at hmx
           cases hs:tP ei.size v l.toNat hv.toNat with
           |none=>rw[hs]at hr;simp at hr
           |some u=>
            rw[hs]at hr
            simp only[aB]at hr
            subst hr
            have hvt:v.isTuple=false:=by cases v<;>first|rfl|simp[lenOf]at hn
            obtain⟨y,hrun,hR⟩:=XG hT ht rfl he ((hρ x v hx).one hvt) hρ hn hl hh hm need.1 need.2.1 need.2.2.1 need.2.2.2 (fun h1=>by
             have:=hmx h1
             cases hi<;>simp_all) u hs
            refine cZ (x:=y) (w':=w) ?_ (eO h hD hR.bT)
            simp only[execOp,Sem.run_bind,hrun,Result.andThen_ok,Sem.run_pure]
    case array n e=>
     cases mx with
     |some m=>simp at hr
     |none=>
      simp only at hr
      cases he:look e T with
      |none=>rw[he]at hr;simp at hr
      |some ei=>
       cases hl:cR ρ 0 lo with
       |none=>rw[he,hl]at hr;simp at hr
       |some a=>
        cases hh:cR ρ n hi with
        |none=>rw[he,hl,hh]at hr;simp at hr
        |some b=>
         rw[he,hl,hh]at hr
         simp only at hr
         obtain⟨y,hrun,hR⟩:=US hT h hpre hD ht rfl he (hρ x v hx) hρ hl hh hr need
         refine cZ (x:=y) (w':=w) ?_ hR
         simp only[execOp,Sem.run_bind,Option.map_none,hrun,Result.andThen_ok,Sem.run_pure]
 case fieldAddr s x i=>
  cases hs:look s T with
  |none=>rw[hs]at hr;simp at hr
  |some ti=>
   cases hx:ρ x with
   |none=>rw[hs,hx]at hr;simp at hr
   |some p=>
    rw[hs,hx]at hr
    simp only at hr
    cases hf:pq ti.desc i with
    |none=>rw[hf]at hr;simp at hr
    |some fd=>
     rw[hf]at hr
     simp only at hr
     have hp:=hρ x p hx
     cases p<;>simp only[reduceCtorEq]at hr
     case bW v=>
      cases hk:jP T v i fd.offset fd.type with
      |none=>rw[hk]at hr;simp at hr
      |some k=>
       rw[hk]at hr
       simp only[cD,aB]at hr
       subst hr
       obtain⟨b,o,he,hR⟩:=Pu hk hp
       obtain⟨fi,hfi,h0⟩:∃fi,look fd.type T=some fi/\fi.size≠0:=by
        obtain⟨_,_,ps,_,hps,_⟩:=hp.bW
        obtain⟨fi,_,_,_,q1,_,_,_,_,_,_,_,q2,_⟩:=BT hk hps
        exact⟨fi,q1,q2⟩
       refine cZ (w':=w) ?_ (eO h hD hR.bT)
       simp only[execOp,Sem.run_bind,he,Kj hT hs hf hfi h0,Result.andThen_ok,Sem.run_pure]
     case ptr k idx es off path=>
      cases hfi:look fd.type T with
      |none=>rw[hfi]at hr;simp at hr
      |some fi=>
       rw[hfi]at hr
       simp only at hr
       split at hr
       ·simp at hr
       ·rename_i h0
        simp only[cD,aB]at hr
        subst hr
        obtain⟨b,N,hb,he⟩:=hp.ptr
        refine cZ (x:=.pointer (some ⟨b,idx*es+off+fd.offset,none⟩)) (w':=w) ?_ (eO h hD (bu.bT (.cL ?_ rfl)))
        ·simp only[execOp,Sem.run_bind,he,Kj hT hs hf hfi (by simpa using h0),Result.andThen_ok,Sem.run_pure]
        ·rw[Nat.add_assoc];exact .ptr hb .nil
 case field s x i=>
  cases hs:look s T with
  |none=>rw[hs]at hr;simp at hr
  |some ti=>
   cases hx:ρ x with
   |none=>rw[hs,hx]at hr;simp at hr
   |some v=>
    rw[hs,hx]at hr
    simp only at hr
    cases hf:pq ti.desc i with
    |none=>rw[hf]at hr;simp at hr
    |some fd=>
     rw[hf]at hr
     simp only at hr
     cases hk:jP T v i fd.offset fd.type with
     |none=>rw[hk]at hr;simp at hr
     |some k=>
      rw[hk]at hr
      simp only[cD,aB]at hr
      subst hr
      have hvt:v.isTuple=false:=by
       cases v<;>first|rfl|(simp[jP,AV.kids]at hk)
      obtain⟨y,hrun,hR⟩:=Rw hT (w:=w) hs ((hρ x v hx).one hvt) hf hk
      refine cZ (x:=y) (w':=w) ?_ (eO h hD hR.bT)
      simp only[execOp,Sem.run_bind,hrun,Result.andThen_ok,Sem.run_pure]
 case indexAddr t x ix=>
  cases ht:look t T with
  |none=>rw[ht]at hr;simp at hr
  |some ti=>
   cases hx:ρ x with
   |none=>rw[ht,hx]at hr;obtain⟨d,_,_,_⟩:=ti;cases d<;>simp at hr
   |some p=>
    cases hi:ρ ix with
    |none=>rw[ht,hx,hi]at hr;obtain⟨d,_,_,_⟩:=ti;cases d<;>simp at hr
    |some iv=>
     rw[ht,hx,hi]at hr
     obtain⟨d,sz,by',z⟩:=ti
     have hp:=hρ x p hx
     have hiv:=hρ ix iv hi
     cases d<;>try (simp only[reduceCtorEq]at hr;done)
     case array n e=>
      cases iv<;>simp only[reduceCtorEq]at hr
      case int kd i=>
       have hie:=hiv.int
       cases he:look e T with
       |none=>rw[he]at hr;simp at hr
       |some ei=>
        rw[he]at hr
        simp only at hr
        split at hr
        ·simp at hr
        ·rename_i h0
         cases p<;>simp only[reduceCtorEq]at hr
         case bW v=>
          cases hk:jP T v i.toNat (i.toNat*ei.size) e with
          |none=>rw[hk]at hr;simp at hr
          |some k=>
           rw[hk]at hr
           simp only[aB]at hr
           subst hr
           obtain⟨b,o,hev,hR⟩:=Pu hk hp
           refine cZ (w':=w) ?_ (eO h hD hR.bT)
           simp only[execOp,Sem.run_bind,hev,hie,Kv hT ht rfl he need.1 need.2,Result.andThen_ok,Sem.run_pure]
         case ptr k idx es off path=>
          simp only[aB]at hr
          subst hr
          obtain⟨b,N,hb,hev⟩:=hp.ptr
          refine cZ (x:=.pointer (some ⟨b,idx*es+off+i.toNat*ei.size,none⟩)) (w':=w) ?_ (eO h hD (bu.bT (.cL ?_ rfl)))
          ·simp only[execOp,Sem.run_bind,hev,hie,Kv hT ht rfl he need.1 need.2,Result.andThen_ok,Sem.run_pure]
          ·rw[Nat.add_assoc];exact .ptr hb .nil
     case slice e=>
      cases iv<;>simp only[reduceCtorEq]at hr
      case int kd i=>
       have hie:=hiv.int
       cases he:look e T with
       |none=>rw[he]at hr;simp at hr
       |some ei=>
        rw[he]at hr
        simp only at hr
        split at hr
        ·simp at hr
        ·rename_i h0
         cases hel:elemAt pre ei.size p i.toNat with
         |none=>rw[hel]at hr;simp at hr
         |some q=>
          obtain⟨q,nd⟩:=q
          rw[hel]at hr
          simp only[aB]at hr
          subst hr
          obtain⟨y,hrun,hR⟩:=Yy hT h hpre (kd:=kd) ht rfl he hp need.1 hel need.2
          refine cZ (x:=y) (w':=w) ?_ (eO h hD hR.bT)
          simp only[execOp,Sem.run_bind,hie,hrun,Result.andThen_ok,Sem.run_pure]
 case index t x ix=>
  cases ht:look t T with
  |none=>rw[ht]at hr;simp at hr
  |some ti=>
   cases hx:ρ x with
   |none=>rw[ht,hx]at hr;obtain⟨d,_,_,_⟩:=ti;cases d<;>simp at hr
   |some v=>
    cases hi:ρ ix with
    |none=>rw[ht,hx,hi]at hr;obtain⟨d,_,_,_⟩:=ti;cases d<;>simp at hr
    |some iv=>
     rw[ht,hx,hi]at hr
     obtain⟨d,sz,by',z⟩:=ti
     have hiv:=hρ ix iv hi
     cases d<;>try (simp only[reduceCtorEq]at hr;done)
     case array n e=>
      cases iv<;>simp only[reduceCtorEq]at hr
      case int kd i=>
       have hie:=hiv.int
       cases he:look e T with
       |none=>rw[he]at hr;simp at hr
       |some ei=>
        rw[he]at hr
        simp only at hr
        cases hk:jP T v i.toNat (i.toNat*ei.size) e with
        |none=>rw[hk]at hr;simp at hr
        |some k=>
         rw[hk]at hr
         simp only[aB]at hr
         subst hr
         have hvt:v.isTuple=false:=by
          cases v<;>first|rfl|(simp[jP,AV.kids]at hk)
         obtain⟨y,hrun,hR⟩:=Tq hT (w:=w) (kd:=kd) ht rfl he ((hρ x v hx).one hvt) hk need.1 need.2
         refine cZ (x:=y) (w':=w) ?_ (eO h hD hR.bT)
         simp only[execOp,Sem.run_bind,hie,hrun,Result.andThen_ok,Sem.run_pure]
 case extract x i=>
  cases hx:ρ x with
  |none=>rw[hx]at hr;simp at hr
  |some v=>
   rw[hx]at hr
   cases v<;>simp only[reduceCtorEq]at hr
   case tuple l=>
    cases hl:l[i]? with
    |none=>rw[hl]at hr;simp at hr
    |some v=>
     rw[hl]at hr
     simp only[cD,aB]at hr
     subst hr
     obtain⟨vs,hev,hvs⟩:=hρ x _ hx
     obtain⟨y,hy,hR⟩:=hvs.get i v hl
     refine cZ (x:=y) (w':=w) ?_ (eO h hD hR.bT)
     simp[execOp,hev,Instr.extract,hy]
 case makeFunc fn first caps=>
  cases fn<;>simp only[reduceCtorEq]at hr
  case func f=>
   cases hc:fI ρ caps.toList with
   |none=>rw[hc]at hr;cases first.toList<;>simp at hr
   |some l=>
    rw[hc]at hr
    cases hf:first.toList with
    |cons a b=>rw[hf]at hr;simp at hr
    |nil=>
     rw[hf]at hr
     simp only at hr
     split at hr
     ·rename_i hall
      simp only[Bool.and_eq_true]at hall
      obtain⟨hall,hall2⟩:=hall
      simp only[aB]at hr
      subst hr
      have hfe:first=#[]:=by apply Array.ext';simpa using hf
      subst hfe
      have hcaps:=(oF hρ hc).Om hall
      obtain⟨q1,q2,q3⟩:=Zx (pre:=pre) h (fun k o hk=>⟨o,hpre k o hk,.inl rfl⟩) hcaps
      refine cZ (x:=.func (.func f) #[] (List.map ev caps.toList).toArray) (w':=w) ?_ ⟨β,q1.m7 hD,q2,bu.bT (.cL (.func q3 hall2 .nil) rfl)⟩
      have e1:Array.map ev caps=(List.map ev caps.toList).toArray:=by apply Array.ext';simp
      simp[execOp,Instr.makeFunc,e1]
     ·simp at hr
theorem bK.dM {M:Nat->Prop} {v:AV} {x:Value} (h:bK M w β v x):bK M w β (Am.dM v) x:=by
 cases v with
 |eJ b es n f=>
  obtain⟨cs,h1,h2⟩:=bK.one h rfl
  cases h1 with
  |eJ g0 g1 g2 g3 g4 g5 g6=>
   cases g6
   exact bu.bT ⟨_,.az g1 g2 g3 g4 g5 .nil,h2⟩
 |cz n v=>obtain⟨_,_,_,_,h1⟩:=h.cz;exact h1.bT
 |_=>exact h
theorem aaC {ρ:Operand->Option AV} {op:Op} {v:AV} (h:rj T ρ op=some v):∃o t x y u b es n f z,op=.binOp o t x y u/\ρ x=some (.eJ b es n f)/\ρ y=some .nil/\isSlice T t=true/\v=.bool z/\((o=.eql/\z=b)\/(o=.neq/\z=!b)):=by
 cases op<;>simp only[rj,reduceCtorEq]at h
 case binOp o t x y u=>
  cases hx:ρ x with
  |none=>rw[hx]at h;simp at h
  |some a=>
   cases hy:ρ y with
   |none=>rw[hx,hy]at h;simp at h
   |some d=>
    rw[hx,hy]at h
    simp only at h
    cases hf:F9 a d with
    |none=>rw[hf]at h;simp at h
    |some b=>
     cases hs:isSlice T t with
     |false=>rw[hf,hs]at h;simp at h
     |true=>
      rw[hf,hs]at h
      have hab:∃es n f,a=.eJ b es n f/\d=.nil:=by
       cases a<;>simp only[F9,reduceCtorEq]at hf
       case eJ b' es n f=>
        cases d<;>simp only[reduceCtorEq,aB]at hf
        case nil=>subst hf;exact⟨es,n,f,rfl,rfl⟩
      obtain⟨es,n,f,rfl,rfl⟩:=hab
      cases o<;>simp only[reduceCtorEq,aB]at h
      case eql=>exact⟨_,t,x,y,u,b,es,n,f,b,rfl,hx,hy,hs,h.symm,.inl ⟨rfl,rfl⟩⟩
      case neq=>exact⟨_,t,x,y,u,b,es,n,f,!b,rfl,hx,hy,hs,h.symm,.inr ⟨rfl,rfl⟩⟩
theorem MH {f:Nat->AV}:∀{n:Nat} {l:List UInt8},bytesOf f n=some l->∃ns:List Int,ns.length=n/\(∀i,i<n->∃b,ns[i]?=some b/\f i=.int .u8 b)/\(ns.foldl (fun r n=>r.push (UInt8.ofNat n.toNat)) ByteArray.empty)=⟨l.toArray⟩
 |0,l,h=>by
  simp only[bytesOf,aB]at h
  subst h
  exact⟨[],rfl,fun i hi=>aa,rfl⟩
 |n+1,l,h=>by
  simp only[bytesOf]at h
  split at h
  ·rename_i l' b h1 h2
   simp only[aB]at h
   subst h
   obtain⟨ns,e1,e2,e3⟩:=MH h1
   refine⟨ns++[b],by simp[e1],fun i hi=>?_,?_⟩
   ·by_cases hin:i<n
    ·obtain⟨b',q1,q2⟩:=e2 i hin
     exact⟨b',by rw[List.getElem?_append_left aa];exact q1,q2⟩
    ·have:i=n:=aa
     subst this
     exact⟨b,by rw[List.getElem?_append_right aa,e1];simp,h2⟩
   ·rw[List.foldl_append,e3]
    simp[ByteArray.push]
  ·simp at h
theorem S2 {w:World} {M:Nat->Prop} {f:Nat->AV} {n cap:Nat} {l:List UInt8} {base:Option Addr} {cf:Nat->List Value} (hl:bytesOf f n=some l)
  (g1:n=0\/∃b o,base=some ⟨b,o,none⟩/\∀i,i<n->w.rangeAt b (o+i*1) (cf i)) (g3:base=none->n=0) (g4:∀i,i<n->(cf i).length=1/\aQ M w bz [f i] (cf i)):
  (Conv.bytesToString (.slice base n cap)).run P w=.ok (.string ⟨l.toArray⟩) w:=by
 obtain⟨ns,e1,e2,e3⟩:=MH hl
 cases base with
 |none=>
  have:=g3 rfl
  subst this
  simp only[bytesOf,aB]at hl
  subst hl
  rfl
 |some a=>
  rw[run_bytesToString w a n cap ns,e3]
  have hcell:∀j v,(ns.map (Value.int .u8))[j]?=some v->w.cell? (a.add j)=some v:=by
   intro j v hv
   rw[List.getElem?_map,Option.map_eq_some_iff]at hv
   obtain⟨b,hb,rfl⟩:=hv
   have hj:j<n:=by
    have:=(List.getElem?_eq_some_iff.1 hb).1
    omega
   rcases g1 with g1|⟨bl,o,hbo,g1⟩
   ·omega
   simp only[aB]at hbo
   subst hbo
   obtain⟨b',q1,q2⟩:=e2 j hj
   rw[hb]at q1
   simp only[aB]at q1
   subst q1
   obtain⟨q3,q4⟩:=g4 j hj
   rw[q2]at q4
   have hcf:cf j=[.int .u8 b]:=by
    revert q4
    generalize cf j=z
    intro q4
    cases q4 with|int h=>cases h;rfl
   have:=g1 j hj
   rw[hcf]at this
   have:=this 0 _ rfl
   rw[Addr.add_mid]
   simpa using this
  have:=run_loadCells_list (P:=P) (w:=w) a (ns.map (Value.int .u8)) hcell
  rw[List.length_map,e1]at this
  exact this
include hT in
theorem X8 (h:bk c st D β w) (hpre:∀k o,look k pre=some o->look k st=some o) (hD:∀k,D k->D' k) {ρ:Operand->Option AV} {ev:Operand->Value} (hρ:∀x v,ρ x=some v->bK (aP c st β) w β v (ev x)) {o:Oper} {r:fC}
  (hev:∀v,ev (.const v)=v) (hr:qz T pre ρ o.op=some r) (need:r.need):mB P (execOp ev o) w (fS c st D' β w r.cI r.val):=by
 obtain⟨dst,op,type,pos,after,guard⟩:=o
 cases op<;>simp only[qz,reduceCtorEq]at hr
 case binOp o t x y u=>
  have hbool:∀t,bK (aP c st β) w β (.bool t) (.bool t):=fun t=>bu.bT (.cL (.bool .nil) rfl)
  split at hr
  ·rename_i a b ha hb
   have ea:=(hρ x _ ha).str
   have eb:=(hρ y _ hb).str
   split at hr
   ·split at hr
    ·rename_i hl
     have hl:=Nat.le_of_ble_eq_true hl
     simp only[cD,aB]at hr
     subst hr
     refine cZ (x:=.string ⟨(a++b).toArray⟩) (w':=w) ?_ (eO h hD (bu.bT (.cL (.str .nil) rfl)))
     simp only[execOp,ea,eb,eqGuard_at_string,binOp_string_add]
     simp only[Sem.run_bind,Sem.run_pure,Result.andThen_ok,run_string_add_lists w a b aa aa]
    ·simp at hr
   ·simp only[cD,aB]at hr
    subst hr
    refine cZ (x:=.bool (a==b)) (w':=w) ?_ (eO h hD (hbool _))
    simp only[execOp,ea,eb,eqGuard_at_string,binOp_string_eql,ByteArray.toList_mk]
    simp
   ·simp only[cD,aB]at hr
    subst hr
    refine cZ (x:=.bool (!(a==b))) (w':=w) ?_ (eO h hD (hbool _))
    simp only[execOp,ea,eb,eqGuard_at_string,binOp_string_neq,ByteArray.toList_mk]
    simp
   ·simp at hr
  ·simp at hr
 case convert s d x=>
  split at hr
  ·rename_i e _ _ _ _ _ _ v hs hd hx
   split at hr
   ·rename_i he
    split at hr
    ·rename_i n f hra
     split at hr
     ·rename_i l hl
      simp only[cD,aB]at hr
      subst hr
      obtain⟨base,cap,cf,hev',g1,g2,g3,g4⟩:=rJ h hpre aa (hρ x _ hx) hra
      have hus:=(hT _ _ hs).dN
      have hud:=(hT _ _ hd).dN
      have hue:=(hT _ _ he).dN
      refine cZ (x:=.string ⟨l.toArray⟩) (w':=w) ?_ (eO h hD (bu.bT (.cL (.str .nil) rfl)))
      simp only[execOp,hev',Sem.run_bind,run_convert_bytes_string w s d e base n cap hus hue hud]
      rw[S2 hl g1 g3 g4]
      rfl
     ·simp at hr
    ·simp at hr
   ·simp at hr
  ·simp at hr
 case index t x ix=>
  cases x<;>(try simp only[reduceCtorEq]at hr)
  case const v=>
   cases v<;>(try simp only[reduceCtorEq]at hr)
   case string s=>
    cases hi:ρ ix with
    |none=>rw[hi]at hr;simp at hr
    |some iv=>
     cases ht:look t T with
     |none=>rw[hi,ht]at hr;cases iv<;>simp at hr
     |some ti=>
      rw[hi,ht]at hr
      have hiv:=hρ ix iv hi
      cases iv<;>simp only[reduceCtorEq]at hr
      case int kd i=>
       have hie:=hiv.int
       split at hr
       ·rename_i hs
        simp only[aB]at hr
        subst hr
        have need:0<=i/\i<s.size:=need
        have hu:P.underlying t=some .string:=by
         have:=(hT _ _ ht).dN
         cases hd:ti.desc<;>rw[hd]at hs this<;>simp only[isString,Bool.false_eq_true]at hs
         case string=>exact this
        have hb:(oL s i.toNat:Int)=((s[i.toNat]'aa).toNat:Int):=by
         unfold oL
         have hlt:i.toNat<s.data.size:=by have:s.size=s.data.size:=rfl;omega
         rw[Array.getElem?_eq_getElem hlt]
         rfl
        refine cZ (x:=.int .u8 (oL s i.toNat)) (w':=w) ?_ (eO h hD (bu.bT (.cL (.int .nil) rfl)))
        simp only[execOp,hie,hev]
        rw[Sem.run_bind,run_index_string w t s kd i hu,dif_pos need,hb]
        rfl
       ·simp at hr
theorem RQ {K:Nat} {ρ:Operand->Option AV} {op:Op} {r:fC} (hc:wA T ρ pre op=true) (hr:gh T Γ K ρ pre op=some r):r.need:=by
 cases op<;>simp only[wA,Bool.false_eq_true]at hc
 case load t a=>
  split at hc
  ·rename_i k idx es off path ha
   split at hc
   ·rename_i o ho
    have hlt:=Nat.blt_eq.mp hc
    simp only[gh,ha]at hr
    split at hr
    ·rename_i ti p ht hp
     simp only[aB]at hp
     subst hp
     simp only[rH,ho]at hr
     split at hr
     ·split at hr
      ·split at hr
       ·simp only[aB]at hr;subst hr;exact hlt
       ·simp at hr
      ·simp at hr
     ·simp at hr
    ·simp at hr
   ·simp at hc
  ·simp at hc
 case store t a x=>
  split at hc
  ·rename_i k idx es off path ha
   split at hc
   ·rename_i o ho
    have hlt:=Nat.blt_eq.mp hc
    simp only[gh,ha]at hr
    split at hr
    ·rename_i ti p v ht hp hv
     simp only[aB]at hp
     subst hp
     simp only[zo,ho]at hr
     (repeat' split at hr)<;>first|(simp only[aB]at hr;subst hr;exact hlt)|simp at hr
    ·simp at hr
   ·simp at hc
  ·simp at hc
 case indexAddr t x ix=>
  split at hc
  ·rename_i n e _ _ _ _ i ht hi
   have hlt:=of_decide_eq_true hc
   cases hx:ρ x with
   |none=>simp only[gh,ht,hi,hx]at hr;simp at hr
   |some p=>
    simp only[gh,ht,hi,hx]at hr
    split at hr
    ·split at hr
     ·simp at hr
     ·split at hr
      ·split at hr
       ·simp only[aB]at hr;subst hr;exact hlt
       ·simp at hr
      ·simp only[aB]at hr;subst hr;exact hlt
      ·simp at hr
    ·simp at hr
  ·rename_i e _ _ _ v _ i ht hv hi
   split at hc
   ·rename_i n hn
    simp only[Bool.and_eq_true,bI,Nat.blt_eq]at hc
    simp only[gh,ht,hi,hv]at hr
    split at hr
    ·rename_i ti hti
     split at hr
     ·simp at hr
     ·split at hr
      ·rename_i r' nd hel
       simp only[aB]at hr
       subst hr
       refine⟨hc.1,?_⟩
       unfold elemAt at hel
       unfold lenOf at hn
       have hc2:=hc.2
       (repeat' split at hel)<;>simp_all<;>(obtain⟨_,rfl⟩:=hel;exact hc2)
      ·simp at hr
    ·simp at hr
   ·simp at hc
  ·simp at hc
 case index t x ix=>
  split at hc
  ·rename_i n e _ _ _ _ i ht hi
   have hlt:=of_decide_eq_true hc
   cases hx:ρ x with
   |none=>simp only[gh,ht,hi,hx]at hr;simp at hr
   |some p=>
    simp only[gh,ht,hi,hx]at hr
    split at hr
    ·split at hr
     ·simp only[aB]at hr;subst hr;exact hlt
     ·simp at hr
    ·simp at hr
  ·simp at hc
 case slice t x lo hi mx=>
  split at hc
  ·rename_i v hv
   split at hc
   ·rename_i len hlen
    split at hc
    ·rename_i l h hl hh
     split at hc
     ·rename_i m hm
      have hlt:=of_decide_eq_true hc
      cases ht:look t T with
      |none=>simp only[gh,hv,ht]at hr;simp at hr
      |some ti0=>
       obtain⟨dd,_,_,_⟩:=ti0
       cases dd<;>try (simp only[gh,hv,ht]at hr;simp at hr;done)
       case array n e=>
        simp only[gh,hv,ht]at hr
        exfalso
        split at hr
        ·split at hr
         ·unfold Bp at hr
          cases v<;>simp[lenOf]at hlen<;>simp at hr
         ·simp at hr
        ·simp at hr
       case slice e=>
        cases he:look e T with
        |none=>simp only[gh,hv,ht,he]at hr;simp at hr
        |some ti=>
         simp only[gh,hv,ht,he,hlen,hl,hh,hm]at hr
         split at hr
         ·simp at hr
         ·split at hr
          ·simp only[aB]at hr;subst hr;exact hlt
          ·simp at hr
     ·simp at hc
    ·simp at hc
   ·simp at hc
  ·simp at hc
 case buildSlice t n ps=>
  split at hc
  ·rename_i e _ _ _ ht
   split at hc
   ·rename_i ti hti
    have hlt:=Nat.le_of_ble_eq_true hc
    cases hp:kZ ρ ps.toList with
    |none=>simp only[gh,ht,hti,hp]at hr;simp at hr
    |some l=>
     simp only[gh,ht,hti,hp]at hr
     split at hr
     ·simp at hr
     ·split at hr
      ·split at hr
       ·simp only[aB]at hr;subst hr;exact hlt
       ·simp at hr
      ·simp at hr
   ·simp at hc
  ·simp at hc
theorem Dd {k:IntKind} (h:A4 k=true):k=.i64:=by cases k<;>first|rfl|cases h
theorem wrap64 {n:Int} (h:-2^63<=n/\n<2^63):IntKind.i64.wrap n=n:=by
 obtain⟨h1,h2⟩:=h
 simp[IntKind.wrap,IntKind.bits,IntKind.signed];omega
theorem ab5 {K:Nat} {ρ:Operand->Option AV} {op:Op} {n:Int} (hp:vQ T ρ op=some n) (hn:-2^63<=n/\n<2^63):gh T Γ K ρ pre op=some ⟨.int .i64 n,[],[]⟩:=by
 cases op<;>simp only[vQ,reduceCtorEq]at hp
 case binOp o t x y u=>
  split at hp
  ·rename_i k a j b hx hy
   split at hp
   ·rename_i hk hj
    obtain rfl:=Dd hk
    obtain rfl:=Dd hj
    simp only[gh,hx,hy]
    split at hp<;>simp only[aB,reduceCtorEq]at hp<;>subst hp<;>simp[pE,isKind,Gx,cD,wrap64 hn]
   ·simp at hp
  ·simp at hp
 case convert s d x=>
  split at hp
  ·rename_i k1 _ _ _ k _ _ _ k2 m hs hd hx
   split at hp
   ·rename_i hk
    obtain rfl:=Dd hk
    simp only[aB]at hp
    subst hp
    simp only[gh,hs,hd,hx,cD,wrap64 hn]
   ·simp at hp
  ·simp at hp
include hT hΓ in
theorem Qv (h:bk c st D β w) (hpre:∀k o,look k pre=some o->look k st=some o) (hD:∀k,D k->D' k) {K:Nat} (hK:∀k,K<=k->k<K+dn->¬D k/\D' k)
  {ρ:Operand->Option AV} {ev:Operand->Value} (hρ:∀x v,ρ x=some v->bK (aP c st β) w β v (ev x)) {o:Oper} {r:fC}
  (hr:rF T Γ K ρ pre o.op=some r) (need:r.need):mB P (execOp ev o) w (fS c st D' β w r.cI r.val):=by
 unfold rF at hr
 split at hr
 ·split at hr
  ·rename_i hc
   split at hr
   ·rename_i r' hr'
    simp only[aB]at hr
    subst hr
    have:=vF hT hΓ h hpre hD hK hρ (r:=r') hr' (RQ hc hr')
    exact this
   ·simp at hr
  ·exact vF hT hΓ h hpre hD hK hρ hr need
 ·split at hr
  ·split at hr
   ·rename_i n hp
    simp only[aB]at hr
    subst hr
    have hn:-2^63<=n/\n<2^63:=need
    have:=vF hT hΓ h hpre hD hK hρ (r:=⟨.int .i64 n,[],[]⟩) (ab5 hp hn) trivial
    exact this
   ·exact vF hT hΓ h hpre hD hK hρ hr need
  ·exact vF hT hΓ h hpre hD hK hρ hr need
theorem QG {p:Prop} {l:List Prop}:aF (p::l)↔p/\aF l:=by
 cases l<;>simp[aF]
theorem Q6 {M:Nat->Prop} {ρ:Operand->Option AV} {ev:Operand->Value} (hρ:∀x v,ρ x=some v->bK M w β v (ev x)) {lo hi:Option Operand} {l h:Int} {n cap:Nat}
  (hl:cR ρ 0 lo=some l) (hh:cR ρ n hi=some h) (h0:0<=l) (h1:l<=h) (h3:h<=n) (h4:n<=cap):
  (Instr.sliceBounds true n cap (lo.map ev) (hi.map ev) none).run P w=.ok (l.toNat,h.toNat,cap) w:=by
 rcases jR hρ hh with⟨rfl,rfl⟩|⟨kh,oh,rfl,hoh⟩
 ·rcases jR hρ hl with⟨rfl,rfl⟩|⟨kl,ol,rfl,hol⟩
  ·simp[Instr.sliceBounds]
  ·simp[Instr.sliceBounds,hol,jM kl l n .sliceB h0 h1]
 ·have b2:=jM (P:=P) (w:=w) kh h cap .sliceAcap aa aa
  rcases jR hρ hl with⟨rfl,rfl⟩|⟨kl,ol,rfl,hol⟩
  ·simp[Instr.sliceBounds,hoh,b2]
  ·simp[Instr.sliceBounds,hol,hoh,b2,jM kl l h.toNat .sliceB h0 aa]
theorem aaQ (t tx ty e:TypeId) (i:TypeInfo) (z:Value) (ht:P.underlying t=some (.slice e)) (hk:P.underlying tx=some (.int .i64)) (hi:P.info? e=some i) (hz:i.zero=some z) (base:Option Addr) (sLen sCap:Nat) (olds:List Value)
  (hold:(Builtin.firstCells i.size sLen (.slice base sLen sCap)).run P w.drew=.ok olds.toArray w.drew) (n:Nat) (h0:0<n) (hs:0<i.size) (hg:sCap<sLen+n)
  (h63:((sLen+n:Nat):Int)<9223372036854775808) (hb:n*i.bytes<=281474976710656) (hfit:Builtin.nextslicecap (sLen+n) sCap*i.bytes<=281474976710656):
  (Builtin.append_ #[t,tx] ty #[.slice base sLen sCap,.int .i64 n]).run P w=
   .ok (.slice (some ⟨w.heap.size,0,none⟩) (sLen+n) (grownCap w (sLen+n) sCap e))
    (w.drew.alloc (.cells (olds.toArray++Builtin.zeroCells z.cells n++Builtin.zeroCells z.cells (grownCap w (sLen+n) sCap e-(sLen+n))) e)):=by
 have hw:IntKind.i64.wrap (n:Int)=n:=by rw[IntKind.wrap_i64];omega
 have hn:¬n=0:=aa
 have hns:¬n*i.size=0:=by
  intro h;rcases Nat.mul_eq_zero.1 h with h|h<;>omega
 have hnc:¬(sLen+n<=sCap):=aa
 have h63':¬(9223372036854775807<((sLen:Int)+(n:Int))):=aa
 have hb':¬(281474976710656<(n:Int)*(i.bytes:Int)):=by
  rw[<-Int.natCast_mul]
  omega
 have h48':¬(281474976710656<Builtin.nextslicecap (sLen+n) sCap*i.bytes):=aa
 have hneg:¬((n:Int)<0):=aa
 set_option maxRecDepth 100000 in
 simp[Builtin.append_,run_underlying ht,run_underlying hk,sizeOf,typeInfo,zeroValue,hi,hz,asInt,asIntOf,hw,hn,hnc,hneg,h63',hb',h48',hns,Question.forced,hold,newRow,grownCap]
include hT in
theorem aak (h:bk c st D β w) (hD:∀k,D k->D' k) {K:Nat} (hK:¬D K) (hDK:D' K) {t t' ty:TypeId} {ti ti' ei:TI}
  (ht:look t T=some ti) (ht':look t' T=some ti') {e:TypeId} (hd:ti.desc=.slice e) (hd':ti'.desc=.int .i64) (he:look e T=some ei) (h1:ei.size≠0) (h2:ei.zero.size=ei.size)
  (h3:ei.zero.isTuple=false) {n cap:Nat} {f:Nat->AV} {x:Value} (hx:bK (aP c st β) w β (.cz cap (.az ei.size n f)) x) {m:Nat} (n0:0<m) (hcap:cap<n+m) (n1:(n+m)*(ei.bytes+1)*2<=2^47):
  ∃z w',(Builtin.append_ #[t,t'] ty #[x,.int .i64 m]).run P w=.ok z w'/\fS c st D' β w [(K,some ⟨true,true,ei.size,n+m,fun i=>if i<n then f i else ei.zero⟩)] (.own K ei.size 0 (n+m)) z w':=by
 obtain⟨i,zz,hi,hz,hrep⟩:=(hT e ei he).zero h3
 obtain⟨i',hi',his,hib⟩:=(hT e ei he).info
 rw[hi]at hi'
 simp only[aB]at hi'
 subst hi'
 have hzl:zz.cells.size=ei.size:=by rw[<-Array.length_toList,(hrep (aP c st β) w β).cells.length];simp[sizes,h2]
 obtain⟨base0,m0,rfl,_,hx1⟩:=hx.cz
 obtain⟨base,cap0,cf,hsl,g1,g2,g3,g4,g5⟩:=hx1.bT.az
 cases hsl
 have hmb:(n+m)*ei.bytes<=2^47:=Nat.le_trans (by rw[Nat.mul_assoc];exact Nat.mul_le_mul_left _ aa) n1
 have hmb2:m*ei.bytes<=(n+m)*ei.bytes:=Nat.mul_le_mul_right _ aa
 have hm2:(n+m)*2<=2^47:=Nat.le_trans (by rw[Nat.mul_assoc];exact Nat.mul_le_mul_left _ aa) n1
 have hfold:(Builtin.firstCells i.size n (.slice base0 n cap)).run P w.drew=.ok (flat cf n).toArray w.drew:=by
  refine ug (w:=w.drew) aa (fun i hi=>by rw[g4 i hi,his]) ?_ n
  rcases g1 with g1|⟨b,o,rfl,g1⟩
  ·exact .inl g1
  ·refine .inr ⟨b,o,rfl,fun i hi j v hv=>?_⟩
   rw[World.cell?_drew,his]
   exact(g1 i hi).range j v hv
 have hrun:=aaQ (P:=P) (w:=w) t t' ty e i zz (hd▸(hT t ti ht).dN) (hd'▸(hT t' ti' ht').dN) hi hz base0 n cap (flat cf n) hfold m n0 aa hcap aa (by rw[hib];omega) (growslice_fits aa (by rw[hib];omega))
 have hcap2:n+m<=grownCap w (n+m) cap e:=by simp[grownCap,Question.cut]
 generalize grownCap w (n+m) cap e=C at hrun hcap2
 refine⟨_,_,hrun,β.set K (w.heap.size,C,n+m),?_⟩
 have e1:dD (aP c st β) w β (aP c st β) w.drew β:=dD.drew
 have ez:(flat cf n).toArray++Builtin.zeroCells zz.cells m=(flat (fun i=>if i<n then cf i else zz.cells.toList) (n+m)).toArray:=by
  apply Array.ext'
  rw[Array.toList_append,DM]
  exact E1 cf (fun _=>zz.cells.toList) n m
 rw[ez]
 obtain⟨q1,q2⟩:=h.drew.vg (D':=D') (es:=ei.size) (f:=fun i=>if i<n then f i else ei.zero) (cf:=fun i=>if i<n then cf i else zz.cells.toList) hK hD hDK aa hcap2 (fun i hi=>by
  by_cases h':i<n
  ·simp only[if_pos h'];exact⟨g4 i h',(g5 i h').pC e1⟩
  ·simp only[if_neg h'];exact⟨by rw[Array.length_toList,hzl],(hrep _ _ _).cells⟩) (Z:=Builtin.zeroCells zz.cells (C-(n+m))) (by rw[vh,hzl]) (ty:=e)
 refine⟨q1,e1.trans q2,bu.bT (.cL ?_ rfl)⟩
 exact aQ.own (N:=(C,n+m)) (aZ.ij _ _ _) ⟨by simp,by simp⟩ hcap2 (.inr (by simp)) aa .nil
theorem vI {M:Nat->Prop} {ρ:Operand->Option AV} {ev:Operand->Value} (hρ:∀x v,ρ x=some v->bK M w β v (ev x)):∀x v,fE ρ x=some v->bK M w β v (ev x):=fun x v hx=>by
 unfold fE at hx
 cases hx':ρ x with
 |none=>rw[hx']at hx;simp at hx
 |some u=>
  rw[hx']at hx
  simp only[aB]at hx
  subst hx
  exact(hρ x u hx').dM
include hT in
theorem P1 (h:bk c st D β w) (hpre:∀k o,look k pre=some o->look k st=some o) (hD:∀k,D k->D' k) {K:Nat} (hK:¬D K) (hDK:D' K) {t t' ty:TypeId} {ti ti' ei:TI}
  (ht:look t T=some ti) (ht':look t' T=some ti') {e e':TypeId} (hd:ti.desc=.slice e) (hd':ti'.desc=.slice e') (he:look e T=some ei) (h1:ei.size≠0) (h2:ei.zero.size=ei.size)
  (h3:ei.zero.isTuple=false) {n cap:Nat} {f:Nat->AV} {x:Value} (hx:bK (aP c st β) w β (.cz cap (.az ei.size n f)) x) {y:AV} {xv:Value} (hy:bK (aP c st β) w β y xv) {m:Nat} {g:Nat->AV} (hr:readAll pre ei.size y=some (m,g))
  (hcap:cap<n+m) (n1:(n+m)*(ei.bytes+1)*2<=2^47):
  ∃z w',(Builtin.append_ #[t,t'] ty #[x,xv]).run P w=.ok z w'/\fS c st D' β w [(K,some ⟨true,true,ei.size,n+m,fun i=>if i<n then f i else g (i-n)⟩)] (.own K ei.size 0 (n+m)) z w':=by
 obtain⟨i,zz,hi,hz,hrep⟩:=(hT e ei he).zero h3
 obtain⟨i',hi',his,hib⟩:=(hT e ei he).info
 rw[hi]at hi'
 simp only[aB]at hi'
 subst hi'
 have hzl:zz.cells.size=ei.size:=by rw[<-Array.length_toList,(hrep (aP c st β) w β).cells.length];simp[sizes,h2]
 obtain⟨base0,m0,rfl,_,hx1⟩:=hx.cz
 obtain⟨base,cap0,cf,hsl,g1,g2,g3,g4,g5⟩:=hx1.bT.az
 cases hsl
 obtain⟨ybase,ycap,yf,rfl,y1,y2,y3,y4⟩:=rJ h hpre aa hy hr
 have hsrc:=zO hT ht' hd' (cap:=ycap) aa y1 y4
 rw[<-his]at hsrc
 have hmb:(n+m)*ei.bytes<=2^47:=Nat.le_trans (by rw[Nat.mul_assoc];exact Nat.mul_le_mul_left _ aa) n1
 have hm2:(n+m)*2<=2^47:=Nat.le_trans (by rw[Nat.mul_assoc];exact Nat.mul_le_mul_left _ aa) n1
 have hfold:(Builtin.firstCells i.size n (.slice base0 n cap)).run P w.drew=.ok (flat cf n).toArray w.drew:=by
  refine ug (w:=w.drew) aa (fun i hi=>by rw[g4 i hi,his]) ?_ n
  rcases g1 with g1|⟨b,o,rfl,g1⟩
  ·exact .inl g1
  ·refine .inr ⟨b,o,rfl,fun i hi j v hv=>?_⟩
   rw[World.cell?_drew,his]
   exact(g1 i hi).range j v hv
 have hrun:=run_append_grow_src (P:=P) w t t' ty e i zz (hd▸(hT t ti ht).dN) hi hz base0 n cap (flat cf n) hfold (.slice ybase m ycap) m (flat yf m) hsrc hcap aa (growslice_fits aa (by rw[hib];omega))
 rw[E1]at hrun
 have hcap2:n+m<=grownCap w (n+m) cap e:=by simp[grownCap,Question.cut]
 generalize grownCap w (n+m) cap e=C at hrun hcap2
 refine⟨_,_,hrun,β.set K (w.heap.size,C,n+m),?_⟩
 have e1:dD (aP c st β) w β (aP c st β) w.drew β:=dD.drew
 obtain⟨q1,q2⟩:=h.drew.vg (D':=D') (es:=ei.size) (f:=fun i=>if i<n then f i else g (i-n)) (cf:=fun i=>if i<n then cf i else yf (i-n)) hK hD hDK aa hcap2 (fun i hi=>by
  by_cases h':i<n
  ·simp only[if_pos h'];exact⟨g4 i h',(g5 i h').pC e1⟩
  ·simp only[if_neg h'];exact⟨(y4 (i-n) aa).1,(y4 (i-n) aa).2.pC e1⟩) (Z:=Builtin.zeroCells zz.cells (C-(n+m))) (by rw[vh,hzl]) (ty:=e)
 refine⟨q1,e1.trans q2,bu.bT (.cL ?_ rfl)⟩
 exact aQ.own (N:=(C,n+m)) (aZ.ij _ _ _) ⟨by simp,by simp⟩ hcap2 (.inr (by simp)) aa .nil
include hT in
theorem aen (h:bk c st D β w) (hpre:∀k o,look k pre=some o->look k st=some o) (hD:∀k,D k->D' k) {K:Nat} (hK0:¬D K/\D' K)
  {ρ:Operand->Option AV} {ev:Operand->Value} (hρ:∀x v,ρ x=some v->bK (aP c st β) w β v (ev x)) {a b:Operand} {argTypes:Array TypeId} {ty:TypeId} {cap k es n:Nat} (hca:ρ a=some (.cz cap (.own k es 0 n)))
  {args:Array Operand} (hargs:args.toList=[a,b]) {K' e' nm:Nat} {cI:List (Nat×Option aC)} {iP:List Prop} (hr:lN T Γ K (fE ρ) pre ⟨.builtin .append,args,argTypes⟩=some ⟨.own K' e' 0 nm,cI,iP⟩) (need:aF iP) (hle:nm<=cap):
  ∃z w',(Builtin.append_ argTypes ty #[ev a,ev b]).run P w=.ok z w'/\fS c st D' β w cI (.cz cap (.own K' e' 0 nm)) z w':=by
 have hra:fE ρ a=some (.own k es 0 n):=by simp[fE,hca,dM]
 simp only[lN,hargs]at hr
 cases ht:argTypes[0]? with
 |none=>rw[ht]at hr;simp at hr
 |some t=>
  cases ht2:argTypes[1]? with
  |none=>rw[ht,ht2]at hr;simp at hr
  |some t'=>
   rw[ht,ht2]at hr
   cases hb:fE ρ b with
   |none=>
    have hop:fI (fE ρ) [a,b]=none:=by simp[fI,hra,hb]
    rw[hop]at hr
    simp at hr
   |some y=>
    by_cases hyt:y.isTuple=true
    ·have hop:fI (fE ρ) [a,b]=none:=by simp[fI,hra,hb,hyt]
     rw[hop]at hr
     simp at hr
    ·have hop:fI (fE ρ) [a,b]=some [own k es 0 n,y]:=by
      simp only[fI,hra,hb,hyt,Bool.false_eq_true,if_false]
      rfl
     rw[hop]at hr
     simp only at hr
     have hat:(Builtin.append_ argTypes ty #[ev a,ev b]).run P w=(Builtin.append_ #[t,t'] ty #[ev a,ev b]).run P w:=by
      simp only[Builtin.append_,ht,ht2]
      rfl
     rw[hat]
     cases htl:look t T with
     |none=>rw[htl]at hr;simp at hr
     |some ti=>
      cases htl2:look t' T with
      |none=>rw[htl,htl2]at hr;obtain⟨d,_,_,_⟩:=ti;cases d<;>simp at hr
      |some ti'=>
       rw[htl,htl2]at hr
       obtain⟨d,sz,by',z⟩:=ti
       obtain⟨d',sz',by'',z'⟩:=ti'
       cases d<;>cases d'<;>simp only[reduceCtorEq]at hr
       case slice.slice e e''=>
        cases he:look e T with
        |none=>rw[he]at hr;simp at hr
        |some ei=>
         rw[he]at hr
         simp only at hr
         cases hrd:readAll pre ei.size y with
         |none=>rw[hrd]at hr;simp at hr
         |some mg=>
          obtain⟨m,g⟩:=mg
          rw[hrd]at hr
          simp only at hr
          cases hk:look k pre with
          |none=>rw[hk]at hr;simp at hr
          |some ob=>
           rw[hk]at hr
           simp only at hr
           split at hr
           ·rename_i hc
            simp only[Bool.and_eq_true,beq_iff_eq,bne_iff_ne,ne_eq,Bool.not_eq_true']at hc
            obtain⟨⟨⟨⟨⟨⟨⟨c1,c2⟩,c3⟩,c4⟩,c5⟩,c6⟩,c7⟩,c8⟩:=hc
            simp only[aB,fC.mk.injEq,own.injEq]at hr
            obtain⟨⟨rfl,rfl,_,rfl⟩,rfl,rfl⟩:=hr
            subst c4
            obtain⟨base,m1,hev,_,hx1⟩:=(hρ a _ hca).cz
            have hm1:m1=n:=by
             rcases hx1.bT.own with⟨b1,o1,cp,N,g1,_⟩|⟨g1,g2,g3,_⟩
             ·rw[hev]at g1;cases g1;rfl
             ·rw[hev]at g1;cases g1;exact g3.symm
            subst hm1
            obtain⟨zv,w',hrun,⟨β',q1,q2,q3⟩,hcp⟩:=IP hT (ty:=ty) h hpre hD hK0.1 hK0.2 htl htl2 rfl rfl he c5 c6 c7 (vI hρ b y hb) hrd hx1.bT (hpre k ob hk) c1 c2 c3 need
            obtain⟨base',rfl⟩:=hcp base cap hev hle
            exact⟨_,w',hrun,β',q1,q2,bu.bT (.cL (.cz rfl (q3.cell rfl) .nil) rfl)⟩
           ·simp at hr
theorem Km {M:Nat->Prop} {ρ:Operand->Option AV} {ev:Operand->Value} (hρ:∀x v,ρ x=some v->bK M w β v (ev x)) {lo hi:Option Operand} {l h:Int} {n cap:Nat}
  (hl:cR ρ 0 lo=some l) (hh:cR ρ n hi=some h) (h0:0<=l) (h1:l<=h) (h3:h<=cap) (h4:n<=cap):
  (Instr.sliceBounds true n cap (lo.map ev) (hi.map ev) none).run P w=.ok (l.toNat,h.toNat,cap) w:=by
 rcases jR hρ hh with⟨rfl,rfl⟩|⟨kh,oh,rfl,hoh⟩
 ·rcases jR hρ hl with⟨rfl,rfl⟩|⟨kl,ol,rfl,hol⟩
  ·simp[Instr.sliceBounds]
  ·simp[Instr.sliceBounds,hol,jM kl l n .sliceB h0 h1]
 ·have b2:=jM (P:=P) (w:=w) kh h cap .sliceAcap aa aa
  rcases jR hρ hl with⟨rfl,rfl⟩|⟨kl,ol,rfl,hol⟩
  ·simp[Instr.sliceBounds,hoh,b2]
  ·simp[Instr.sliceBounds,hol,hoh,b2,jM kl l h.toNat .sliceB h0 aa]
include hT in
theorem YA (h:bk c st D β w) (hD:∀k,D k->D' k) {t t' ty:TypeId} {ti ti' ei:TI}
  (ht:look t T=some ti) (ht':look t' T=some ti') {e e':TypeId} (hd:ti.desc=.slice e) (hd':ti'.desc=.slice e') (he:look e T=some ei) (h1:ei.size≠0) (h3:ei.zero.isTuple=false)
  {k n s m cap:Nat} {o:aC} {x y:Value} (hs:bK (aP c st β) w β (.own k ei.size 0 n) x) (hc:∃base,x=.slice base n cap) (hy:bK (aP c st β) w β (.own k ei.size s m) y)
  (hk:look k st=some o) (hrow:o.row=true) (hwr:o.wr=true) (hes:o.es=ei.size) (n1:n+m<=cap) (n2:n+m<=o.len):
  ∃z w',(Builtin.append_ #[t,t'] ty #[x,y]).run P w=.ok z w'/\
   fS c st D' β w [(k,some {o with f:=fun i=>if n<=i/\i<n+m then o.f (i-n+s)else o.f i})] (.cz cap (.own k ei.size 0 (n+m))) z w':=by
 obtain⟨i,zz,hi,hz,hrep⟩:=(hT e ei he).zero h3
 obtain⟨i',hi',his,hib⟩:=(hT e ei he).info
 rw[hi]at hi'
 simp only[aB]at hi'
 subst hi'
 obtain⟨base,ycap,cf,rfl,g1,g2,g3,g4⟩:=rJ (pre:=st) h (fun _ _ h=>h) (es:=ei.size) aa hy (show readAll st ei.size (.own k ei.size s m)=some (m,fun i=>o.f (i+s)) by simp[readAll,hk,hrow,hes])
 have hsrc:=zO hT ht' hd' (cap:=ycap) aa g1 g4
 have hu:=hd▸(hT t ti ht).dN
 have hm0run:m=0->∀{B:Option Addr} {C:Nat},n<=C->(Builtin.append_ #[t,t'] ty #[.slice B n C,.slice base m ycap]).run P w=.ok (.slice B (n+m) C) w:=fun hm0 {B C} hn=>by
  subst hm0
  have hcells:=hsrc.cells
  have hf:(flat cf 0).toArray=#[]:=by simp[flat]
  rw[hf]at hcells
  cases B with
  |none=>simp[Builtin.append_,run_underlying hu,run_underlying (hd'▸(hT t' ti' ht').dN),sizeOf,typeInfo,hi,Builtin.lenOf,his,hcells,hn,storeCells]
  |some b=>simp[Builtin.append_,run_underlying hu,run_underlying (hd'▸(hT t' ti' ht').dN),sizeOf,typeInfo,hi,Builtin.lenOf,his,hcells,hn,storeCells]
 have hsame:m=0->(fun i=>if n<=i/\i<n+m then o.f (i-n+s)else o.f i)=o.f:=fun hm0=>funext fun i=>if_neg aa
 obtain⟨bx,hbx⟩:=hc
 rcases hs.own with hs|⟨rfl,_,rfl,k6⟩
 rotate_left
 ·cases hbx
  have hm0:m=0:=aa
  obtain⟨q1,q2⟩:=h.Fw (o':={o with f:=fun i=>if 0<=i/\i<0+m then o.f (i-0+s)else o.f i}) hk (by rw[hsame hm0])
  refine⟨_,_,hm0run hm0 (Nat.zero_le _),β,q1.m7 hD,q2,bu.bT (.cL (.cz rfl ?_ .nil) rfl)⟩
  subst hm0
  exact .own0 k6 .nil
 obtain⟨b,off,scap,N,rfl,k1,k2,k3,k4,k5,k6⟩:=hs
 cases hbx
 obtain⟨cs,cty,cfo,e1,e2,e3,e4,e5,e6⟩:=h.elems hk hrow k1
 have hold:∀i,i<o.len->(cfo i).length=ei.size/\aQ (aP c st β) w bz [o.f i] (cfo i)/\∀j v,(cfo i)[j]?=some v->cs[i*ei.size+j]?=some v:=fun i hi=>by
  have:=e6 i hi
  rwa [hes]at this
 have hfl:=nj (cf:=cf) (m:=m) (es:=ei.size) fun i hi=>(g4 i hi).1
 have hfit:n*ei.size+m*ei.size<=cs.size:=by
  rw[e2,hes,<-Nat.add_mul];exact Nat.mul_le_mul_right _ aa
 have hrun:(Builtin.append_ #[t,t'] ty #[.slice (some ⟨b,off,none⟩) n cap,.slice base m ycap]).run P w=.ok (.slice (some ⟨b,off,none⟩) (n+m) cap) (w.setRow b (splice cs (n*ei.size) (flat cf m))):=by
  by_cases hm0:m=0
  ·rw[hm0run hm0 k4]
   subst hm0
   rw[show splice cs (n*ei.size) (flat cf 0)=cs by simp[flat,splice],setRow_self w b cs cty _ e1]
  ·have hoff:off=0:=by rcases k5 with k5|k5<;>omega
   subst hoff
   have hst:=run_storeCells_at P b (n*ei.size) cty (flat cf m) 0 cs w e1 (by rw[hfl];simpa using hfit) (yw fun i hi=>(g4 i hi).2)
   simp only[Nat.add_zero]at hst
   have hcells:=hsrc.cells
   simp[Builtin.append_,run_underlying hu,run_underlying (hd'▸(hT t' ti' ht').dN),sizeOf,typeInfo,hi,Builtin.lenOf,his,hcells,n1,Addr.add_lit,hst,splice]
 have hq:=h.write (o':={o with f:=fun i=>if n<=i/\i<n+m then o.f (i-n+s)else o.f i}) hk hwr k1 e1 (wM (by rw[hfl];exact hfit)) rfl hwr rfl (fun i hi=>?_)
 ·refine⟨_,_,hrun,β,hq.1.m7 hD,hq.2,bu.bT (.cL (.cz rfl ?_ .nil) rfl)⟩
  exact .own k1 ⟨k2,aa⟩ n1 k5 k6 .nil
 ·have hi':i<o.len:=hi
  obtain⟨f1,f2,f3⟩:=hold i hi'
  by_cases hin:n<=i/\i<n+m
  ·obtain⟨a1,a2⟩:=g4 (i-n) aa
   refine⟨cf (i-n),?_,?_,fun j v hv=>?_⟩
   ·rw[a1];exact hes.symm
   ·simp only[hrow,if_true,if_pos hin]
    exact a2
   ·have hj:j<ei.size:=by rw[<-a1];exact(List.getElem?_eq_some_iff.1 hv).1
    have h5:i*ei.size=n*ei.size+(i-n)*ei.size:=by rw[<-Nat.add_mul];congr 1;omega
    have h6:=Nat.mul_le_mul_right ei.size (show(i-n)+1<=m by omega)
    rw[Nat.add_mul,Nat.one_mul]at h6
    simp only[hes]
    rw[oA (by rw[hfl];exact hfit),hfl,if_pos aa]
    have h7:i*ei.size+j-n*ei.size=(i-n)*ei.size+j:=aa
    rw[h7,qd (fun i hi=>(g4 i hi).1) aa hj]
    exact hv
  ·refine⟨cfo i,?_,?_,fun j v hv=>?_⟩
   ·rw[f1];exact hes.symm
   ·simp only[hrow,if_true,if_neg hin];exact f2
   ·have hj:j<ei.size:=by rw[<-f1];exact(List.getElem?_eq_some_iff.1 hv).1
    simp only[hes]
    rw[oA (by rw[hfl];exact hfit),hfl,if_neg ?_]
    ·exact f3 j v hv
    ·by_cases hlt:i<n
     ·have:=Nat.mul_le_mul_right ei.size (show i+1<=n by omega)
      rw[Nat.add_mul,Nat.one_mul]at this;omega
     ·have:=Nat.mul_le_mul_right ei.size (show n+m<=i by omega)
      rw[Nat.add_mul]at this;omega
include hT in
theorem RX (h:bk c st D β w) (hpre:∀k o,look k pre=some o->look k st=some o) (hD:∀k,D k->D' k)
  {ρ:Operand->Option AV} {ev:Operand->Value} (hρ:∀x v,ρ x=some v->bK (aP c st β) w β v (ev x)) {a b:Operand} {t t' ty:TypeId} {cap k es n:Nat} (hca:ρ a=some (.cz cap (.own k es 0 n)))
  {r:fC} (hr:vi T pre t t' cap k es n (fE ρ b)=some r) (need:r.need):
  ∃z w',(Builtin.append_ #[t,t'] ty #[ev a,ev b]).run P w=.ok z w'/\fS c st D' β w r.cI r.val z w':=by
 cases hb:fE ρ b with
 |none=>rw[hb]at hr;simp[vi]at hr
 |some v=>
  rw[hb]at hr
  cases v<;>try (simp only[vi,reduceCtorEq]at hr;done)
  case own k' es' s m=>
   simp only[vi]at hr
   split at hr
   rotate_left
   ·simp at hr
   rename_i e sz by' z e' sz' by'' z' htl htl2
   split at hr
   rotate_left
   ·simp at hr
   rename_i ei o he hk
   split at hr
   rotate_left
   ·simp at hr
   rename_i hc
   simp only[Bool.and_eq_true,beq_iff_eq,bne_iff_ne,ne_eq,Bool.not_eq_true']at hc
   obtain⟨⟨⟨⟨⟨⟨⟨c1,c2⟩,c3⟩,c4⟩,c5⟩,c6⟩,c7⟩,c8⟩:=hc
   subst c1 c2
   simp only[aB]at hr
   subst hr
   obtain⟨n1,n2⟩:n+m<=cap/\n+m<=o.len:=need
   obtain⟨base,m0,hev,_,hx1⟩:=(hρ a _ hca).cz
   subst c6
   have hown:=hx1.bT.own
   have hm0:m0=n:=by
    rcases hown with⟨b',o',cap',N,hsl,_⟩|⟨hsl,_,h0,_⟩
    ·rw[hev]at hsl;cases hsl;rfl
    ·rw[hev]at hsl;cases hsl;exact h0.symm
   subst hm0
   exact YA hT (ty:=ty) h hD htl htl2 rfl rfl he c7 c8 hx1.bT ⟨base,hev⟩ (vI hρ b _ hb) (hpre _ _ hk) c3 c4 c5 n1 n2
include hT hΓ in
theorem aec (h:bk c st D β w) (hpre:∀k o,look k pre=some o->look k st=some o) (hD:∀k,D k->D' k) {K:Nat} (hK:∀k,K<=k->k<K+dn->¬D k/\D' k)
  {ρ:Operand->Option AV} {ev:Operand->Value} (hρ:∀x v,ρ x=some v->bK (aP c st β) w β v (ev x)) {o:Oper} {r:fC}
  (hr:nI T Γ K ρ pre o.op=some r) (need:r.need):mB P (execOp ev o) w (fS c st D' β w r.cI r.val):=by
 have hK0:¬D K/\D' K:=hK K aX (by simp[dn])
 obtain⟨dst,op,type,pos,after,guard⟩:=o
 simp only at hr
 cases op<;>simp only[nI,reduceCtorEq]at hr
 case makeSlice t l cp=>
  split at hr
  rotate_left
  ·simp at hr
  cases hr0:gh T Γ K (fE ρ) pre (.makeSlice t l cp)with
  |none=>rw[hr0]at hr;simp at hr
  |some r0=>
   cases hc:fE ρ cp with
   |none=>rw[hr0,hc]at hr;simp at hr
   |some cv=>
    rw[hr0,hc]at hr
    cases cv<;>try (simp only[reduceCtorEq]at hr;done)
    case int kc m=>
     cases kc<;>try (simp only[reduceCtorEq]at hr;done)
     case i64=>
      simp only[aB]at hr
      subst hr
      have hN:=vI hρ
      simp only[gh]at hr0
      cases ht:look t T with
      |none=>rw[ht]at hr0;simp at hr0
      |some ti=>
       cases hl:fE ρ l with
       |none=>rw[ht,hl]at hr0;obtain⟨d,_,_,_⟩:=ti;cases d<;>simp at hr0
       |some lv=>
        rw[ht,hl,hc]at hr0
        obtain⟨d,sz,by',z⟩:=ti
        cases d<;>try (simp only[reduceCtorEq]at hr0;done)
        case slice e=>
         have hlv:=hN l lv hl
         have hcv:=hN cp _ hc
         cases lv<;>try (simp only[reduceCtorEq]at hr0;done)
         case int k n=>
          cases k<;>try (simp only[reduceCtorEq]at hr0;done)
          case i64=>
           simp only at hr0
           cases he:look e T with
           |none=>rw[he]at hr0;simp at hr0
           |some ei=>
            rw[he]at hr0
            simp only at hr0
            split at hr0
            ·simp at hr0
            ·rename_i hcc
             simp only[Bool.or_eq_true,beq_iff_eq,bne_iff_ne,ne_eq,not_or,Bool.not_eq_true,Decidable.not_not]at hcc
             simp only[aB]at hr0
             subst hr0
             obtain⟨x,w',hrun,⟨β',q1,q2,q3⟩,base,rfl⟩:=LY hT h hD hK0.1 hK0.2 ht rfl he hcc.1.1 hcc.1.2 hcc.2 need.1 need.2.1 need.2.2.1 need.2.2.2
             refine cZ ?_ ⟨β',q1,q2,bu.bT (.cL (.cz rfl (q3.cell rfl) .nil) rfl)⟩
             simp only[execOp,Sem.run_bind,hlv.int,hcv.int,hrun,Result.andThen_ok,Sem.run_pure]
 case slice t x lo hi mx=>
  cases mx with
  |some mx=>
   simp only[nI]at hr
   split at hr
   rotate_left
   ·simp at hr
   split at hr
   rotate_left
   ·simp at hr
   rename_i es n f hx
   split at hr
   rotate_left
   ·simp at hr
   rename_i e sz by' z ht
   split at hr
   rotate_left
   ·simp at hr
   rename_i ei l hh m he hl hhi hmx
   split at hr
   rotate_left
   ·simp at hr
   rename_i hc
   simp only[Bool.and_eq_true,beq_iff_eq,bne_iff_ne,ne_eq]at hc
   simp only[aB]at hr
   subst hr
   obtain⟨n1,n2,n3,n4⟩:0<=l/\l<=hh/\hh<=m/\m<=n:=need
   obtain⟨base,cap,cf,hev,g1,g2,g3,g4,g5⟩:=(vI hρ x _ hx).az
   obtain⟨oh,rfl⟩:=Option.isSome_iff_exists.1 hc.2
   have hmx':∃km,ev mx=.int km m:=by
    rcases jR hρ hmx with⟨h1,_⟩|⟨km,om,h1,h2⟩
    ·cases h1
    ·cases h1;exact⟨km,h2⟩
   have hhi':∃kh,ev oh=.int kh hh:=by
    rcases jR hρ hhi with⟨h1,_⟩|⟨km,om,h1,h2⟩
    ·cases h1
    ·cases h1;exact⟨km,h2⟩
   obtain⟨km,hom⟩:=hmx'
   obtain⟨kh,hoh⟩:=hhi'
   have hb:(Instr.sliceBounds true n cap (lo.map ev) (some (ev oh)) (some (ev mx))).run P w=.ok (l.toNat,hh.toNat,m.toNat) w:=by
    have b1:=jM (P:=P) (w:=w) km m cap .slice3Acap aa aa
    have b2:=jM (P:=P) (w:=w) kh hh m.toNat .slice3B aa aa
    rcases jR hρ hl with⟨rfl,rfl⟩|⟨kl,ol,rfl,hol⟩
    ·simp[Instr.sliceBounds,hom,hoh,b1,b2]
    ·simp[Instr.sliceBounds,hom,hol,hoh,b1,b2,jM kl l hh.toNat .slice3C n1 aa]
   have hrun:=yG hT ht rfl he hb (base:=base)
   refine cZ (w':=w) ?_ (eO h hD (bu.bT (.cL (.cz (base:=if m.toNat=l.toNat then base else base.map (·.add (l.toNat*ei.size))) (n:=hh.toNat-l.toNat) rfl ?_ .nil) rfl)))
   ·simp only[execOp,Sem.run_bind,Option.map_some,hev,hrun,Result.andThen_ok,Sem.run_pure]
   ·refine .az (cf:=fun i=>cf (i+l.toNat)) ?_ g2 aa (fun i hi=>g4 _ aa) (fun i hi=>g5 _ aa) .nil
    by_cases hz:hh.toNat-l.toNat=0
    ·exact .inl hz
    ·right
     rcases g1 with g1|⟨b,o,rfl,g1⟩
     ·omega
     ·refine⟨b,o+l.toNat*ei.size,?_,fun i hi=>?_⟩
      ·rw[if_neg aa];simp[Addr.add_mid]
      ·have:=g1 (i+l.toNat) aa
       rw[Nat.add_mul]at this
       rw[hc.1.1,Nat.add_assoc,Nat.add_comm (l.toNat*es)]
       exact this
  |none=>
   simp only[nI]at hr
   split at hr
   ·rename_i cap es n f hx
    split at hr
    rotate_left
    ·simp at hr
    rename_i e sz by' z ht
    split at hr
    rotate_left
    ·simp at hr
    rename_i ei l hh he hl hhi
    split at hr
    rotate_left
    ·simp at hr
    rename_i hc
    simp only[Bool.and_eq_true,beq_iff_eq,bne_iff_ne,ne_eq]at hc
    simp only[aB]at hr
    subst hr
    obtain⟨n1,n2,n3⟩:0<=l/\l<=hh/\hh<=n:=need
    obtain⟨base,m0,hev,_,hx1⟩:=(hρ x _ hx).cz
    obtain⟨base',cap',cf,hsl,g1,g2,g3,g4,g5⟩:=hx1.bT.az
    rw[hev]at hsl
    cases hsl
    have hb:=Q6 (P:=P) (cap:=cap) hρ hl hhi n1 n2 n3 g3
    have hrun:=yG hT ht rfl he hb (base:=base)
    refine cZ (w':=w) ?_ (eO h hD (bu.bT (.cL (.cz (base:=if cap=l.toNat then base else base.map (·.add (l.toNat*ei.size))) (n:=hh.toNat-l.toNat) rfl ?_ .nil) rfl)))
    ·simp only[execOp,Sem.run_bind,Option.map_none,hev,hrun,Result.andThen_ok,Sem.run_pure]
    ·refine .az (cf:=fun i=>cf (i+l.toNat)) ?_ g2 aa (fun i hi=>g4 _ aa) (fun i hi=>g5 _ aa) .nil
     by_cases hz:hh.toNat-l.toNat=0
     ·exact .inl hz
     ·right
      rcases g1 with g1|⟨b,o,rfl,g1⟩
      ·omega
      ·refine⟨b,o+l.toNat*ei.size,?_,fun i hi=>?_⟩
       ·rw[if_neg aa];simp[Addr.add_mid]
       ·have:=g1 (i+l.toNat) aa
        rw[Nat.add_mul]at this
        rw[hc.1,Nat.add_assoc,Nat.add_comm (l.toNat*es)]
        exact this
   ·rename_i cap k es s n hx
    split at hr
    rotate_left
    ·simp at hr
    rename_i e sz by' z ht
    split at hr
    rotate_left
    ·simp at hr
    rename_i ei ob l hh he hob hl hhi
    split at hr
    rotate_left
    ·simp at hr
    rename_i hc
    simp only[Bool.and_eq_true,beq_iff_eq,bne_iff_ne,ne_eq]at hc
    simp only[aB]at hr
    subst hr
    obtain⟨n1,n2,n3,n4⟩:0<=l/\l<=hh/\hh<=cap/\(s:Int)+hh<=ob.len:=need
    obtain⟨base,m0,hev,_,hx1⟩:=(hρ x _ hx).cz
    obtain⟨⟨⟨c1,c2⟩,c3⟩,c4⟩:=hc
    rcases hx1.bT.own with⟨b,off,cap',N,hsl,k1,k2,k3,k4,k5,k6⟩|⟨hsl,rfl,rfl,k6⟩
    ·rw[hev]at hsl
     cases hsl
     obtain⟨cs,cty,cfo,e1,e2,e3,e4,e5,e6⟩:=h.elems (hpre _ _ hob) c3 k1
     have hb:=Km (P:=P) (w:=w) (cap:=cap) hρ hl hhi n1 n2 n3 k4
     have hrun:=yG hT ht rfl he hb (base:=some ⟨b,off,none⟩)
     refine cZ (w':=w) ?_ (eO h hD (bu.bT (.cL (.cz (base:=if cap=l.toNat then some ⟨b,off,none⟩else(some ⟨b,off,none⟩:Option Addr).map (·.add (l.toNat*ei.size))) (n:=hh.toNat-l.toNat) rfl ?_ .nil) rfl)))
     ·simp only[execOp,Sem.run_bind,Option.map_none,hev,hrun,Result.andThen_ok,Sem.run_pure]
     ·by_cases hz:cap=l.toNat
      ·rw[if_pos hz]
       exact .own k1 ⟨aa,aa⟩ aa (.inl aa) k6 .nil
      ·rw[if_neg hz]
       have ho:off=s*es:=k5.resolve_left aa
       rw[show Option.map (·.add (l.toNat*ei.size)) (some (⟨b,off,none⟩:Addr))=some ⟨b,off+l.toNat*ei.size,none⟩ by simp[Addr.add_mid]]
       exact .own k1 ⟨aa,aa⟩ aa (.inr (by rw[ho,c1,Nat.add_mul])) k6 .nil
    ·rw[hev]at hsl
     cases hsl
     have l0:l=0:=aa
     have h0:hh=0:=aa
     subst l0 h0
     have hb:=Km (P:=P) (w:=w) (cap:=0) hρ hl hhi n1 n2 aa aX
     have hrun:=yG hT ht rfl he hb (base:=none)
     refine cZ (w':=w) ?_ (eO h hD (bu.bT (.cL (.cz (base:=none) (n:=0) rfl (.own0 k6 .nil) .nil) rfl)))
     simp only[execOp,Sem.run_bind,Option.map_none,hev,hrun,Result.andThen_ok,Sem.run_pure]
     simp
   ·simp at hr
 case call cl=>
  obtain⟨callee,args,argTypes⟩:=cl
  cases callee with
  |invoke r m=>simp at hr
  |value f=>
   simp only at hr
   split at hr
   ·exact Js hT hΓ h hpre hD hK hρ (o:=⟨dst,.call ⟨.value f,args,argTypes⟩,type,pos,after,guard⟩) rfl hr need
   ·simp at hr
  |builtin bi=>
   cases bi<;>simp only[reduceCtorEq]at hr
   case cap=>
    cases ht:argTypes[0]? with
    |none=>rw[ht]at hr;simp at hr
    |some t=>
     rw[ht]at hr
     split at hr
     rotate_left
     ·simp at hr
     rename_i t' a ht' hargs
     cases ht'
     split at hr
     rotate_left
     ·simp at hr
     rename_i e sz by' z n v htl ha
     simp only[cD,aB]at hr
     subst hr
     obtain⟨base,m0,hev,_,_⟩:=(hρ a _ ha).cz
     have hu:=(hT t _ htl).dN
     have hargs':Array.map ev args=#[ev a]:=by apply Array.ext';simp[hargs]
     refine cZ (x:=.int .i64 n) (w':=w) ?_ (eO h hD (bu.bT (.cL (.int .nil) rfl)))
     have hres:(execOp ev ⟨dst,.call ⟨.builtin .cap,args,argTypes⟩,type,pos,after,guard⟩:Sem Next)=builtin .cap argTypes type (args.map fun|.const _=>true|_=>false) (Array.map ev args):=rfl
     rw[hres,hargs',hev]
     simp[builtin,Builtin.cap_,ht,run_underlying hu,goInt]
   case append=>
    cases ht:argTypes[0]? with
    |none=>rw[ht]at hr;simp at hr
    |some t=>
     cases ht2:argTypes[1]? with
     |none=>rw[ht,ht2]at hr;simp at hr
     |some t'=>
      rw[ht,ht2]at hr
      split at hr
      rotate_left
      ·simp at hr
      rename_i t1 t1' a b e1 e2 hargs
      cases e1
      cases e2
      have hargs':Array.map ev args=#[ev a,ev b]:=by apply Array.ext';simp[hargs]
      have hres:(execOp ev ⟨dst,.call ⟨.builtin .append,args,argTypes⟩,type,pos,after,guard⟩:Sem Next)=builtin .append argTypes type (args.map fun|.const _=>true|_=>false) (Array.map ev args):=rfl
      rw[hres,hargs']
      split at hr
      ·rename_i cap k es n hca
       cases hself:vi T pre t t' cap k es n (fE ρ b)with
       |some r'=>
        rw[hself]at hr
        simp only[aB]at hr
        subst hr
        obtain⟨zv,w',hrun,hR⟩:=RX hT h hpre hD hρ (ty:=type) hca hself need
        have hat:(Builtin.append_ argTypes type #[ev a,ev b]).run P w=(Builtin.append_ #[t,t'] type #[ev a,ev b]).run P w:=by
         simp only[Builtin.append_,ht,ht2]
         rfl
        refine cZ ?_ hR
        simp only[builtin,Sem.run_bind,hat,hrun,Result.andThen_ok,Sem.run_pure]
       |none=>
       rw[hself]at hr
       simp only at hr
       split at hr
       ·rename_i K' e' nm cI iP hr'
        simp only[aB]at hr
        subst hr
        obtain⟨q1,q2⟩:=QG.1 need
        obtain⟨z,w',hrun,hR⟩:=aen hT h hpre hD hK0 hρ (ty:=type) hca hargs hr' q2 q1
        refine cZ ?_ hR
        simp only[builtin,Sem.run_bind,hrun,Result.andThen_ok,Sem.run_pure]
       ·simp at hr
      ·rename_i cap es n f hca
       have hat:∀x y,(Builtin.append_ argTypes type #[x,y]).run P w=(Builtin.append_ #[t,t'] type #[x,y]).run P w:=fun x y=>by
        simp only[Builtin.append_,ht,ht2]
        rfl
       split at hr
       ·rename_i e sz by' z e' sz' by'' z' y htl htl2 hb
        split at hr
        rotate_left
        ·simp at hr
        rename_i ei he
        split at hr
        rotate_left
        ·simp at hr
        rename_i m g hrd
        split at hr
        ·simp at hr
        rename_i hc
        simp only[Bool.or_eq_true,beq_iff_eq,bne_iff_ne,ne_eq,not_or,Bool.not_eq_true,Decidable.not_not]at hc
        obtain⟨⟨⟨c2,c3⟩,c4⟩,c5⟩:=hc
        simp only[aB]at hr
        subst hr
        subst c5
        obtain⟨n2,n3⟩:cap<n+m/\(n+m)*(ei.bytes+1)*2<=2^47:=need
        obtain⟨zv,w',hrun,hR⟩:=P1 hT (ty:=type) h hpre hD hK0.1 hK0.2 htl htl2 rfl rfl he c2 c3 c4 (hρ a _ hca) (vI hρ b y hb) hrd n2 n3
        refine cZ ?_ hR
        simp only[builtin,Sem.run_bind,hat,hrun,Result.andThen_ok,Sem.run_pure]
       ·rename_i e sz by' z sz' by'' z' m htl htl2 hb
        split at hr
        rotate_left
        ·simp at hr
        rename_i ei he
        split at hr
        ·simp at hr
        rename_i hc
        simp only[Bool.or_eq_true,beq_iff_eq,bne_iff_ne,ne_eq,not_or,Bool.not_eq_true,Decidable.not_not]at hc
        obtain⟨⟨⟨c2,c3⟩,c4⟩,c5⟩:=hc
        simp only[aB]at hr
        subst hr
        subst c5
        obtain⟨n1,n2,n3⟩:0<m/\cap<n+m.toNat/\(n+m.toNat)*(ei.bytes+1)*2<=2^47:=need
        obtain⟨zv,w',hrun,hR⟩:=aak hT (ty:=type) (m:=m.toNat) h hD hK0.1 hK0.2 htl htl2 rfl rfl he c2 c3 c4 (hρ a _ hca) aa n2 n3
        have hbv:=(vI hρ b _ hb).int
        rw[show((m.toNat:Nat):Int)=m by omega,<-hbv]at hrun
        refine cZ ?_ hR
        simp only[builtin,Sem.run_bind,hat,hrun,Result.andThen_ok,Sem.run_pure]
       ·simp at hr
      ·simp at hr
include hT hΓ in
theorem N8 (h:bk c st D β w) (hpre:∀k o,look k pre=some o->look k st=some o) (hD:∀k,D k->D' k) {K:Nat} (hK:∀k,K<=k->k<K+dn->¬D k/\D' k)
  {ρ:Operand->Option AV} {ev:Operand->Value} (hρ:∀x v,ρ x=some v->bK (aP c st β) w β v (ev x)) (hev:∀v,ev (.const v)=v) {o:Oper} {r:fC}
  (hr:mz T Γ K ρ pre o.op=some r) (need:r.need):mB P (execOp ev o) w (fS c st D' β w r.cI r.val):=by
 unfold mz at hr
 cases hn:rj T ρ o.op with
 |some v=>
  rw[hn]at hr
  simp only[cD,aB]at hr
  subst hr
  obtain⟨dst,op,type,pos,after,guard⟩:=o
  obtain⟨o,t,x,y,u,b,es,n,f,z,h1,hx,hy,hs,h2,h3⟩:=aaC hn
  simp only at h1
  subst h1 h2
  obtain⟨cs,hv,hv2⟩:=bK.one (hρ x _ hx) rfl
  have hnil:=(hρ y _ hy).nil
  have hbool:∀t,bK (aP c st β) w β (.bool t) (.bool t):=fun t=>bu.bT (.cL (.bool .nil) rfl)
  have hsl:∃e,P.underlying t=some (.slice e):=by
   unfold isSlice at hs
   cases ht:look t T with
   |none=>rw[ht]at hs;simp at hs
   |some ti=>
    rw[ht]at hs
    have hu:=(hT _ _ ht).dN
    simp only at hs
    cases hd:ti.desc<;>rw[hd]at hs<;>simp only[NT,Bool.false_eq_true]at hs
    case slice e=>exact⟨e,by rw[hu,hd]⟩
  obtain⟨e,hu⟩:=hsl
  have hev':∃base cap,ev x=.slice base n cap/\base.isNone=b:=by
   cases hv with
   |eJ g0 g1 g2 g3 g4 g5 g6=>
    rename_i base cap cs' cf
    cases g6
    exact⟨base,cap,by simpa [show(eJ b es n f).isAgg=false from rfl,eq_comm]using hv2,g0⟩
  obtain⟨base,cap,hev,hb⟩:=hev'
  refine cZ (x:=.bool z) (w':=w) ?_ (eO h hD (hbool _))
  rcases h3 with⟨rfl,rfl⟩|⟨rfl,rfl⟩
  ·simp only[execOp,hev,hnil,eqGuard_at_slice,binOp]
   simp[run_equal_slice_nil w t e base n cap hu,hb]
  ·simp only[execOp,hev,hnil,eqGuard_at_slice,binOp]
   simp[run_equal_slice_nil w t e base n cap hu,hb]
 |none=>
  rw[hn]at hr
  simp only at hr
  cases hstr:qz T pre ρ o.op with
  |some r'=>
   rw[hstr]at hr
   simp only[aB]at hr
   subst hr
   exact X8 hT h hpre hD hρ (o:=o) hev hstr need
  |none=>
  rw[hstr]at hr
  simp only at hr
  cases hcap:nI T Γ K ρ pre o.op with
  |some r'=>
   rw[hcap]at hr
   simp only[aB]at hr
   subst hr
   exact aec hT hΓ h hpre hD hK hρ hcap need
  |none=>
  rw[hcap]at hr
  simp only at hr
  split at hr
  ·exact vF hT hΓ h hpre hD hK hρ hr need
  ·refine Qv hT hΓ h hpre hD hK (ρ:=fE ρ) (fun x v hx=>?_) hr need
   unfold fE at hx
   cases hx':ρ x with
   |none=>rw[hx']at hx;simp at hx
   |some u=>
    rw[hx']at hx
    simp only[aB]at hx
    subst hx
    exact(hρ x u hx').dM
end ops
end Go.Am
namespace Go.Am
open AV
def pO (M:Nat->Prop) (w:World) (β:aZ) (sl:List (Nat×AV)) (tmps:Array Value):Prop:=∀t v,look t sl=some v->∃x,tmps[t]?=some x/\bK M w β v x
def Ol (D:Nat):Deferred:={target:=.collected D,args:=#[]}
def rm (c:Ctx) (ds:List Deferred) (w:World):Prop:=
 (c.ro.isSome=true->ds=[])/\∃Ds:List Nat,ds=Ds.map Ol/\Ds.Nodup/\∀D∈Ds,w.heap[D]?=some (.deferred (some []))/\c.w0.heap.size<=D
theorem rm.nil {c:Ctx} {w:World}:rm c [] w:=⟨fun _=>rfl,[],rfl,.nil,fun _ h=>by cases h⟩
theorem rm.jf {c:Ctx} {ds:List Deferred} {w w':World} {st:aG} {D:Nat->Prop} {β β':aZ} {M':Nat->Prop} (h:rm c ds w) (hw:bk c st D β w) (he:dD (aP c st β) w β M' w' β'):rm c ds w':=by
 obtain⟨h0,Ds,h1,h2,h3⟩:=h
 refine⟨h0,Ds,h1,h2,fun D hD=>⟨(he.heap D _ ?_ (h3 D hD).1).1,(h3 D hD).2⟩⟩
 rintro(hm|⟨k,o,N,g1,_,g3⟩)
 ·exact Nat.not_lt.2 (h3 D hD).2 (hw.iH D hm).1
 ·obtain⟨b,N',cs,ty,q1,q2,_⟩:=hw.obj k o g1 _ g3
  rw[g3]at q1
  cases q1
  rw[(h3 D hD).1]at q2
  cases q2
def Rel (c:Ctx) (nt:Nat) (D:Nat->Prop) (sl:List (Nat×AV)) (st:aG) (a:Act) (w:World):Prop:=
 rm c a.defers w/\a.tmps.size=nt/\∃β,bk c st D β w/\pO (aP c st β) w β sl a.tmps
theorem BC {dst:Option Tmp} {v:AV} {sl:List (Nat×AV)} {t:Nat}:look t (rW dst v sl)=if dst=some t then some v else look t sl:=by
 cases dst with
 |none=>simp[rW]
 |some d=>
  simp only[rW,xT,aB]
  by_cases h:t=d
  ·simp[h]
  ·have:¬d=t:=fun e=>h e.symm
   simp[h,this]
theorem ox {st:aG} {k:Nat}:∀{ks:List Nat},look k (pick st ks)=if k∈ks then look k st else none
 |[]=>by simp[pick,look]
 |j::ks=>by
  simp only[pick]
  cases hj:look j st with
  |none=>
   simp only[ox (ks:=ks),List.mem_cons]
   by_cases h:k=j
   ·subst h;simp[hj]
   ·simp[h]
  |some o=>
   simp only[xT,ox (ks:=ks),List.mem_cons]
   by_cases h:k=j
   ·subst h;simp[hj]
   ·simp[h]
theorem zP {st:aG}:∀{ks:List Nat},((pick st ks).map (·.1)).Nodup
 |[]=>by simp[pick]
 |j::ks=>by
  simp only[pick]
  cases hj:look j st with
  |none=>exact zP
  |some o=>
   have:=zP (st:=st) (ks:=ks)
   revert this
   generalize pick st ks=l
   intro hl
   induction l with
   |nil=>simp[put]
   |cons p l ih=>
    obtain⟨i,b⟩:=p
    simp only[List.map_cons,List.nodup_cons]at hl
    simp only[put]
    by_cases h:(i==j)=true
    ·have:i=j:=by simpa using h
     subst this
     simp only[BEq.rfl,if_true,List.map_cons,List.nodup_cons]
     exact hl
    ·simp only[h,Bool.false_eq_true,if_false,List.map_cons,List.nodup_cons]
     refine⟨fun hm=>?_,ih hl.2⟩
     have hmem:∀(l:aG),i∈(put j o l).map (·.1)->i=j\/i∈l.map (·.1):=by
      intro l
      induction l with
      |nil=>simp[put]
      |cons q l ih2=>
       obtain⟨i2,b2⟩:=q
       simp only[put]
       by_cases h2:(i2==j)=true
       ·simp only[h2,if_true,List.map_cons,List.mem_cons]
        rintro(h3|h3)
        ·exact .inl h3
        ·exact .inr (.inr h3)
       ·simp only[h2,Bool.false_eq_true,if_false,List.map_cons,List.mem_cons]
        rintro(h3|h3)
        ·exact .inr (.inl h3)
        ·exact(ih2 h3).imp id .inr
     rcases hmem l hm with h3|h3
     ·exact h (by simpa using h3)
     ·exact hl.1 h3
theorem Fj {p:Prop} {l:List Prop}:aF (p::l)↔p/\aF l:=by
 cases l<;>simp[aF]
theorem iy {a b:List Prop}:aF (a++b)↔aF a/\aF b:=by
 induction a with
 |nil=>simp[aF]
 |cons p a ih=>rw[List.cons_append,Fj,Fj,ih,and_assoc]
theorem Jp {orc:List (Nat×Bool)} {i:Nat} {r:fC} (h:aF (guess orc i r).iP):aF r.iP/\(guess orc i r).val=r.val/\(guess orc i r).cI=r.cI:=by
 unfold guess at h ⊢
 split
 ·rename_i t ht
  rw[ht]at h
  simp only at h
  split
  ·rename_i b hb
   rw[hb]at h
   simp only at h
   obtain⟨h1,h2⟩:=Fj.1 h
   exact⟨h2,by rw[hb,h1],rfl⟩
  ·rename_i hb
   split at h
   ·rename_i b hb2
    exact absurd hb2 (hb b)
   ·exact⟨h,rfl,rfl⟩
 ·rename_i ht
  rw[ht]at h
  exact⟨h,rfl,rfl⟩
section one
variable {c:Ctx} {st:aG} {D D':Nat->Prop} {β:aZ} {w:World}
theorem A0:∀{l:aG} {st:aG},bk c st D β w->(∀k o,look k l=some o->look k st=some o)->(l.map (·.1)).Nodup->
  bk c (dm (gM l) st) D β w/\dD (aP c st β) w β (aP c (dm (gM l) st) β) w β/\
   ∀k o,look k (lW l)=some o->look k (dm (gM l) st)=some o
 |[],st,h,_,_=>⟨h,dD.refl _ _ _,fun k o hk=>by simp[lW,look]at hk⟩
 |(j,o)::l,st,h,hl,hn=>by
  simp only[List.map_cons,List.nodup_cons]at hn
  have hj:look j st=some o:=hl j o (by simp[look])
  have hne:∀k o',look k l=some o'->k≠j:=fun k o' hk e=>by
   subst e
   apply hn.1
   have:∀l:aG,look k l=some o'->k∈l.map (·.1):=by
    intro l
    induction l with
    |nil=>simp[look]
    |cons q l ih=>
     obtain⟨i,b⟩:=q
     simp only[look]
     split
     ·rename_i hh
      intro _
      have:i=k:=by simpa using hh
      simp[this]
     ·intro h2
      simp only[List.map_cons,List.mem_cons]
      exact .inr (ih h2)
   exact this l hk
  by_cases hc:(o.row&&o.wr)=true
  ·obtain⟨q1,q2⟩:=h.freeze hj
   have hl':∀k o',look k l=some o'->look k (put j {o with wr:=false} st)=some o':=fun k o' hk=>by
    rw[gR (hne k o' hk)]
    refine hl k o' ?_
    have:¬j=k:=fun e=>hne k o' hk e.symm
    simp[look,this,hk]
   obtain⟨r1,r2,r3⟩:=A0 q1 hl' hn.2
   simp only[gM,hc,if_true,dm]
   refine⟨r1,q2.trans r2,fun k o' hk=>?_⟩
   simp only[lW,List.map_cons,look]at hk
   split at hk
   ·rename_i hjk
    have hjk':j=k:=by simpa using hjk
    subst hjk'
    simp only[Bool.and_eq_true]at hc
    rw[if_pos hc.1]at hk
    simp only[aB]at hk
    subst hk
    rw[lE]
    have:dj (gM l) j=none:=by
     cases he:dj (gM l) j with
     |none=>rfl
     |some r=>
      exfalso
      have hmem:∀l:aG,∀r,dj (gM l) j=some r->∃o',look j l=some o':=by
       intro l
       induction l with
       |nil=>intro r h;simp[gM,dj]at h
       |cons q l ih=>
        obtain⟨i,b⟩:=q
        intro r h
        by_cases hij:i=j
        ·exact⟨b,by simp[look,hij]⟩
        ·simp only[gM]at h
         split at h
         ·simp only[dj]at h
          cases h3:dj (gM l) j with
          |some r'=>
           obtain⟨o',ho'⟩:=ih r' h3
           exact⟨o',by simp[look,hij,ho']⟩
          |none=>rw[h3]at h;simp[hij]at h
         ·obtain⟨o',ho'⟩:=ih r h
          exact⟨o',by simp[look,hij,ho']⟩
      obtain⟨o',ho'⟩:=hmem l r he
      exact hne j o' ho' rfl
    rw[this]
    simp only[jz]
   ·exact r3 k o' (by simpa [lW]using hk)
  ·have hl':∀k o',look k l=some o'->look k st=some o':=fun k o' hk=>by
    refine hl k o' ?_
    have:¬j=k:=fun e=>hne k o' hk e.symm
    simp[look,this,hk]
   obtain⟨r1,r2,r3⟩:=A0 h hl' hn.2
   have hf:gM ((j,o)::l)=gM l:=by simp[gM,hc]
   rw[hf]
   refine⟨r1,r2,fun k o' hk=>?_⟩
   simp only[lW,List.map_cons,look]at hk
   split at hk
   ·rename_i hjk
    have hjk':j=k:=by simpa using hjk
    subst hjk'
    have ho:(if o.row=true then {o with wr:=false} else o)=o:=by
     split
     ·rename_i hr
      simp only[hr,Bool.true_and,Bool.not_eq_true]at hc
      cases o;simp_all
     ·rfl
    rw[ho]at hk
    simp only[aB]at hk
    subst hk
    rw[lE]
    have:dj (gM l) j=none:=by
     cases he:dj (gM l) j with
     |none=>rfl
     |some r=>
      exfalso
      have hmem:∀l:aG,∀r,dj (gM l) j=some r->∃o',look j l=some o':=by
       intro l
       induction l with
       |nil=>intro r h;simp[gM,dj]at h
       |cons q l ih=>
        obtain⟨i,b⟩:=q
        intro r h
        by_cases hij:i=j
        ·exact⟨b,by simp[look,hij]⟩
        ·simp only[gM]at h
         split at h
         ·simp only[dj]at h
          cases h3:dj (gM l) j with
          |some r'=>
           obtain⟨o',ho'⟩:=ih r' h3
           exact⟨o',by simp[look,hij,ho']⟩
          |none=>rw[h3]at h;simp[hij]at h
         ·obtain⟨o',ho'⟩:=ih r h
          exact⟨o',by simp[look,hij,ho']⟩
      obtain⟨o',ho'⟩:=hmem l r he
      exact hne j o' ho' rfl
    rw[this]
    exact hj
   ·exact r3 k o' (by simpa [lW]using hk)
theorem w8:∀(e f:List (Nat×Option aC)) (st:aG),dm (e++f) st=dm f (dm e st)
 |[],f,st=>rfl
 |(k,some o)::e,f,st=>by simp only[List.cons_append,dm,w8 e]
 |(k,none)::e,f,st=>by simp only[List.cons_append,dm,w8 e]
theorem TX {M:Nat->Prop} {x:Value} {v:AV} (h:ofConst x=some v):bK M w β v x:=by
 unfold ofConst at h
 split at h
 ·simp only[aB]at h;subst h;exact bu.bT (.cL (.bool .nil) rfl)
 ·simp only[aB]at h;subst h;exact bu.bT (.cL (.int .nil) rfl)
 ·simp only[aB]at h;subst h;exact bu.bT (.cL (.vnil .nil) rfl)
 ·simp only[aB]at h;subst h;exact bu.bT (.cL (.void rfl .nil) rfl)
 ·simp only[aB]at h;subst h;exact bu.bT (.cL (.void rfl .nil) rfl)
 ·simp only[aB]at h;subst h;exact bu.bT (.cL (.str .nil) rfl)
 ·simp at h
theorem FE {M:Nat->Prop} {s:aL} {a:Act} (h:pO M w β s.dw a.tmps):∀x v,s.iX x=some v->bK M w β v (a.eval x):=by
 intro x v hx
 cases x with
 |tmp t=>
  obtain⟨y,hy,hv⟩:=h t v hx
  simp only[Act.eval,Array.getD_eq_getD_getElem?,hy,Option.getD_some]
  exact hv
 |const y=>exact TX hx
 |global g=>simp[aL.iX]at hx
 |func f=>
  simp only[aL.iX,aB]at hx
  subst hx
  exact bu.bT (.cL (.func (vs:=[]) .nil rfl .nil) rfl)
theorem YP {M:Nat->Prop} {ops:Array Oper} {sl:List (Nat×AV)} {a:Act} (h:pO M w β sl a.tmps) {o:Oper} {b:Bool} (hw:qv ops.toList sl o=some b):
  Region.wanted o (yielded ops a.tmps)=b:=by
 unfold qv at hw
 unfold Region.wanted
 cases hg:o.guard with
 |none=>rw[hg]at hw;simp only[aB]at hw;simp[hw]
 |some gw=>
  obtain⟨g,want⟩:=gw
  rw[hg]at hw
  simp only at hw ⊢
  cases hp:ops.toList[g]? with
  |none=>rw[hp]at hw;simp at hw
  |some p=>
   rw[hp]at hw
   simp only at hw
   cases hd:p.dst with
   |none=>rw[hd]at hw;simp at hw
   |some d=>
    rw[hd]at hw
    simp only at hw
    cases hl:look d sl with
    |none=>rw[hl]at hw;simp at hw
    |some v=>
     rw[hl]at hw
     cases v<;>try simp only[reduceCtorEq]at hw
     case tuple l=>
      cases l with
      |cons _ _=>simp at hw
      |nil=>
       simp only[aB]at hw
       subst hw
       obtain⟨x,hx,hv⟩:=h d _ hl
       obtain⟨xs,h1,h2⟩:=hv
       subst h1
       have hy:yielded ops a.tmps g=none:=by
        have hp':ops[g]?=some p:=by simpa using hp
        simp[yielded,hp',hd,hx]
       rw[hy]
       simp
     case bool t=>
      obtain⟨x,hx,hv⟩:=h d _ hl
      have:=hv.bool
      subst this
      have hy:yielded ops a.tmps g=some t:=by
       have hp':ops[g]?=some p:=by simpa using hp
       simp[yielded,hp',hd,hx]
      rw[hy]
      cases t<;>cases want<;>simp_all
theorem N6 {T:Types} {Γ:bG} {K:Nat} {ρ:Operand->Option AV} {st:aG} {op:Op} {r:fC} (h:mz T Γ K ρ st op=some r):∀c,op≠.defer c:=by
 rintro c rfl
 have h0:∀ρ',gh T Γ K ρ' st (.defer c)=none:=fun _=>rfl
 have h1:∀ρ',rF T Γ K ρ' st (.defer c)=none:=fun ρ'=>by
  unfold rF
  simp only[h0]
  split
  ·split<;>rfl
  ·split
   ·rfl
   ·rfl
 have h2:rj T ρ (.defer c)=none:=rfl
 have h3:qz T st ρ (.defer c)=none:=rfl
 have h4:nI T Γ K ρ st (.defer c)=none:=rfl
 simp only[mz,h2,h3,h4,h0,h1]at h
 revert h
 split<;>exact fun h=>by cases h
variable {P:Program} {T:Types} (hT:eW P T) {Γ:bG} (hΓ:cm P Γ) {orc:List (Nat×Bool)}
include hT hΓ in
theorem LG {ops:Array Oper} {nt N0 i:Nat} {sl:List (Nat×AV)} {a:Act} (hrel:Rel c nt D sl st a w) {o:Oper} {r:Rec} (hr:oH T Γ orc ops.toList ⟨sl,st,N0⟩ i o=some r) (need:r.res.need)
  (hdst:∀d,o.dst=some d->d<nt) (hD:∀k,D k->D' k) (hK:∀k,N0+dn*i<=k->k<N0+dn*i+dn->¬D k/\D' k) {K:Act->World->Prop} {Q:Exit->Act->World->Prop}
  (hn:∀a' w',Rel c nt D' (rW o.dst r.res.val sl) (dm r.res.cI st) a' w'->K a' w'):
  if Region.wanted o (yielded ops a.tmps)then o.wpIn (iN c.ro) 3 P a w K Q else(∀f,o.about P w a.eval=some f->(iN c.ro).fn f)/\K (a.put o.dst undef) w:=by
 obtain⟨hdef,hsz,β,hw,hs⟩:=hrel
 have hfin:∀{cI:List (Nat×Option aC)} {v:AV} {x:Value} {w':World},fS c st D' β w cI v x w'->Rel c nt D' (rW o.dst v sl) (dm cI st) (a.put o.dst x) w':=by
  rintro cI v x w' ⟨β',q1,q2,q3⟩
  refine⟨?_,?_,β',q1,fun t u ht=>?_⟩
  ·have:=rm.jf hdef hw q2
   cases o.dst<;>simpa [Act.put]using this
  ·cases o.dst<;>simpa [Act.put]using hsz
  ·rw[BC]at ht
   split at ht
   ·rename_i hd
    simp only[aB]at ht
    subst ht
    have:=hdst t hd
    refine⟨x,?_,q3⟩
    simp only[hd,Act.put]
    exact Array.getElem?_setIfInBounds_self_of_lt (by rw[hsz];exact this)
   ·rename_i hd
    obtain⟨y,hy,hv⟩:=hs t u ht
    refine⟨y,?_,hv.jf q2⟩
    cases hdd:o.dst with
    |none=>simpa [Act.put]using hy
    |some d=>
     have hne:d≠t:=fun e=>hd (by rw[hdd,e])
     simp only[Act.put]
     rw[Array.getElem?_setIfInBounds_ne hne];exact hy
 unfold oH at hr
 simp only[force_eq]at hr
 cases hwa:qv ops.toList sl o with
 |none=>rw[hwa]at hr;simp at hr
 |some b=>
  rw[hwa]at hr
  rw[YP hs hwa]
  cases b with
  |false=>
   simp only[aB]at hr
   subst hr
   simp only[Bool.false_eq_true,if_false]
   exact⟨fun _ _=>trivial,hn _ _ (hfin (eO hw hD ⟨[],by simp[undef],trivial⟩))⟩
  |true=>
   simp only[if_true]
   simp only at hr
   have hρ:=FE (s:=⟨sl,st,N0⟩) hs
   cases hop:mz T Γ (N0+dn*i) (aL.iX ⟨sl,st,N0⟩) (pick st (nV st (aL.iX ⟨sl,st,N0⟩) o.op)) o.op with
   |some q=>
    rw[hop]at hr
    simp only[aB]at hr
    subst hr
    obtain⟨need,e1,e2⟩:=Jp need
    simp only[e1,e2]at hn
    refine(N8 hT hΓ hw (fun k o hk=>?_) hD hK hρ (fun _=>rfl) hop need).wpIn (N6 hop) fun x w' hx=>hn _ _ (hfin hx)
    rw[ox]at hk
    split at hk
    ·exact hk
    ·simp at hk
   |none=>
    rw[hop]at hr
    simp only at hr
    cases hfe:gM (pick st (nV st (aL.iX ⟨sl,st,N0⟩) o.op))with
    |nil=>rw[hfe]at hr;simp at hr
    |cons e1 e2=>
     rw[hfe]at hr
     simp only at hr
     cases hop2:mz T Γ (N0+dn*i) (aL.iX ⟨sl,st,N0⟩) (lW (pick st (nV st (aL.iX ⟨sl,st,N0⟩) o.op))) o.op with
     |none=>rw[hop2]at hr;simp at hr
     |some q=>
      rw[hop2]at hr
      simp only[aB]at hr
      subst hr
      obtain⟨need,e1',_⟩:=Jp need
      simp only[e1']at hn
      obtain⟨f1,f2,f3⟩:=A0 (l:=pick st (nV st (aL.iX ⟨sl,st,N0⟩) o.op)) hw (fun k o hk=>by
       rw[ox]at hk
       split at hk
       ·exact hk
       ·simp at hk) zP
      refine(N8 hT hΓ f1 f3 hD hK (fun x v hx=>(hρ x v hx).jf f2) (fun _=>rfl) hop2 need).wpIn (N6 hop2) fun x w' hx=>hn _ _ (hfin ?_)
      obtain⟨β',q1,q2,q3⟩:=hx
      rw[<-hfe]
      refine⟨β',?_,?_,?_⟩
      ·rw[w8];exact q1
      ·rw[w8];exact f2.trans q2
      ·rw[w8];exact q3
end one
end Go.Am
namespace Go.Am
open AV
section locality
variable {T:Types} {Γ:bG} {orc:List (Nat×Bool)}
theorem AD {ρ ρ':Operand->Option AV}:∀{l:List Operand},(∀x∈l,ρ x=ρ' x)->fI ρ l=fI ρ' l
 |[],_=>rfl
 |x::l,h=>by
  have e:fI ρ l=fI ρ' l:=AD fun y hy=>h y (List.mem_cons_of_mem _ hy)
  simp only[fI,h x (by simp),e]
theorem DW {ρ ρ':Operand->Option AV}:∀{l:List (Nat×Operand)},(∀x∈l,ρ x.2=ρ' x.2)->kZ ρ l=kZ ρ' l
 |[],_=>rfl
 |(i,x)::l,h=>by
  have e:kZ ρ l=kZ ρ' l:=DW fun y hy=>h y (List.mem_cons_of_mem _ hy)
  simp only[kZ,h (i,x) (by simp),e]
theorem Jb {ρ ρ':Operand->Option AV}:∀{l:List Operand},(∀x∈l,ρ x=ρ' x)->oy ρ l=oy ρ' l
 |[],_=>rfl
 |x::l,h=>by
  have e:oy ρ l=oy ρ' l:=Jb fun y hy=>h y (List.mem_cons_of_mem _ hy)
  simp only[oy,h x (by simp),e]
theorem Q4 {ρ ρ':Operand->Option AV} {op:Op} (h:∀x∈op.operands.toList,ρ x=ρ' x):sO ρ op=sO ρ' op:=by
 have e:=Jb h
 unfold sO
 split
 ·rfl
 ·cases op<;>simp only[Hj]<;>try exact e
  case fieldAddr t x i hmv=>
   rw[h x (by simp[Op.operands])]
   split
   ·rfl
   ·exact e
  case indexAddr t x i hmv=>
   rw[h x (by simp[Op.operands])]
   split
   ·rfl
   ·exact e
theorem aey {ρ ρ':Operand->Option AV} {op:Op} (h:∀x∈op.operands.toList,ρ x=ρ' x):sj ρ op=sj ρ' op:=by
 cases op<;>try rfl
 case call c=>
  obtain⟨callee,args,argTypes⟩:=c
  cases callee<;>try rfl
  case value f=>
   have:=h f (by simp[Op.operands,Call.operands])
   simp only[sj,this]
theorem E9 {ρ:Operand->Option AV} {x:Operand} {v:AV} {k:Nat} (hx:ρ x=some v) (hk:k∈v.keys):∀{l:List Operand},x∈l->k∈oy ρ l
 |y::l,h=>by
  simp only[List.mem_cons]at h
  simp only[oy]
  rcases h with rfl|h
  ·rw[hx];exact List.mem_append_left _ hk
  ·cases ρ y with
   |none=>exact E9 hx hk h
   |some u=>exact List.mem_append_right _ (E9 hx hk h)
theorem aa3 {ρ:Operand->Option AV} {op:Op} {k:Nat} (h:k∈sj ρ op):k∈sO ρ op:=by
 cases op<;>try exact absurd h List.not_mem_nil
 case call c=>
  obtain⟨callee,args,argTypes⟩:=c
  cases callee<;>try exact absurd h List.not_mem_nil
  case value f=>
   simp only[sj]at h
   split at h
   ·rename_i g l hf
    exact E9 hf h (by simp[Op.operands,Call.operands])
   ·exact absurd h List.not_mem_nil
theorem L6 {st st':aG}:∀{l:List Nat},(∀k∈l,look k st=look k st')->nU st l=nU st' l
 |[],_=>rfl
 |k::l,h=>by
  have e:nU st l=nU st' l:=L6 fun j hj=>h j (List.mem_cons_of_mem _ hj)
  simp only[nU,h k (by simp),e]
theorem K1 {st:aG} {ρ:Operand->Option AV} {op:Op}:nV st ρ op=sO ρ op++nU st (sj ρ op):=by
 unfold nV
 split
 ·rename_i h;rw[h,List.append_nil]
 ·rename_i h;rw[h]
theorem WW {st st':aG} {ρ ρ':Operand->Option AV} {op:Op} (h:∀x∈op.operands.toList,ρ x=ρ' x) (hk:∀k∈nV st ρ op,look k st=look k st'):nV st ρ op=nV st' ρ' op:=by
 rw[K1]at hk ⊢
 rw[K1,<-Q4 h,<-aey h,L6 fun k hk'=>hk k (List.mem_append_left _ (aa3 hk'))]
theorem zD {K:Nat} {ρ ρ':Operand->Option AV} {st:aG} {op:Op} (h:∀x∈op.operands.toList,ρ x=ρ' x):gh T Γ K ρ st op=gh T Γ K ρ' st op:=by
 cases op<;>simp only[Op.operands]at h<;>simp only[gh]
 case move x=>rw[h x (by simp)]
 case assign x=>rw[h x (by simp)]
 case pick a b c=>rw[h a (by simp),h b (by simp),h c (by simp)]
 case box t x=>rw[h x (by simp)]
 case build t ps=>rw[DW fun p hp=>h p.2 (by simp;exact⟨p.1,by simpa using hp⟩)]
 case buildSlice t n ps=>rw[DW fun p hp=>h p.2 (by simp;exact⟨p.1,by simpa using hp⟩)]
 case load t a=>rw[h a (by simp)]
 case store t a x=>rw[h a (by simp),h x (by simp)]
 case nilCheck x=>rw[h x (by simp)]
 case binOp o t x y u=>rw[h x (by simp),h y (by simp)]
 case unOp o t x=>rw[h x (by simp)]
 case convert a b x=>rw[h x (by simp)]
 case sliceToArrayPointer t x=>rw[h x (by simp)]
 case makeFunc f a b=>
  have e:fI ρ b.toList=fI ρ' b.toList:=AD fun x hx=>h x (by simp at hx ⊢;exact .inr hx)
  cases f<;>simp only[e]
 case makeSlice t a b=>rw[h a (by simp),h b (by simp)]
 case slice t x lo hi mx=>
  have e1:∀d,cR ρ d lo=cR ρ' d lo:=fun d=>by
   cases lo with
   |none=>rfl
   |some y=>simp only[cR,h y (by simp)]
  have e2:∀d,cR ρ d hi=cR ρ' d hi:=fun d=>by
   cases hi with
   |none=>rfl
   |some y=>simp only[cR,h y (by simp)]
  have e3:∀d,cR ρ d mx=cR ρ' d mx:=fun d=>by
   cases mx with
   |none=>rfl
   |some y=>simp only[cR,h y (by simp)]
  simp only[h x (by simp),e1,e2,e3]
 case fieldAddr t x i=>rw[h x (by simp)]
 case field t x i=>rw[h x (by simp)]
 case indexAddr t x i=>rw[h x (by simp),h i (by simp)]
 case index t x i=>rw[h x (by simp),h i (by simp)]
 case extract x i=>rw[h x (by simp)]
 case call c=>
  have ha:∀x∈c.args.toList,ρ x=ρ' x:=fun x hx=>h x (by simp[Call.operands];right;simpa using hx)
  obtain⟨callee,args,argTypes⟩:=c
  cases callee with
  |value f=>simp only[lN,AD ha,h f (by simp[Call.operands])]
  |invoke r m=>simp[lN]
  |builtin b=>cases b<;>simp only[lN,AD ha]
theorem uA {ρ ρ':Operand->Option AV} {d:Int} {x:Option Operand} (h:∀y,x=some y->ρ y=ρ' y):cR ρ d x=cR ρ' d x:=by
 cases x with
 |none=>rfl
 |some y=>simp only[cR,h y rfl]
theorem Vf {ρ ρ':Operand->Option AV} {st:aG} {op:Op} (h:∀x∈op.operands.toList,ρ x=ρ' x):wA T ρ st op=wA T ρ' st op:=by
 cases op<;>simp only[wA]
 case load t a=>rw[h a (by simp[Op.operands])]
 case store t a x=>rw[h a (by simp[Op.operands])]
 case indexAddr t x ix=>rw[h x (by simp[Op.operands]),h ix (by simp[Op.operands])]
 case index t x ix=>rw[h ix (by simp[Op.operands])]
 case slice t x lo hi mx=>
  rw[h x (by simp[Op.operands])]
  have e1:∀d,cR ρ d lo=cR ρ' d lo:=fun d=>uA fun y hy=>h y (by simp[Op.operands,hy])
  have e2:∀d,cR ρ d hi=cR ρ' d hi:=fun d=>uA fun y hy=>h y (by simp[Op.operands,hy])
  have e3:∀d,cR ρ d mx=cR ρ' d mx:=fun d=>uA fun y hy=>h y (by simp[Op.operands,hy])
  simp only[e1,e2,e3]
theorem abz {ρ ρ':Operand->Option AV} {op:Op} (h:∀x∈op.operands.toList,ρ x=ρ' x):vQ T ρ op=vQ T ρ' op:=by
 cases op<;>simp only[vQ]
 case binOp o t x y u=>rw[h x (by simp[Op.operands]),h y (by simp[Op.operands])]
 case convert s d x=>rw[h x (by simp[Op.operands])]
theorem II {K:Nat} {ρ ρ':Operand->Option AV} {st:aG} {op:Op} (h:∀x∈op.operands.toList,ρ x=ρ' x):mz T Γ K ρ st op=mz T Γ K ρ' st op:=by
 have h1:rj T ρ op=rj T ρ' op:=by
  cases op<;>simp only[rj]
  case binOp o t x y u=>rw[h x (by simp[Op.operands]),h y (by simp[Op.operands])]
 have h2:rF T Γ K (fE ρ) st op=rF T Γ K (fE ρ') st op:=by
  have e:∀x∈op.operands.toList,fE ρ x=fE ρ' x:=fun x hx=>by simp only[fE,h x hx]
  simp only[rF,zD e,Vf e,abz e]
 have h3:qz T st ρ op=qz T st ρ' op:=by
  cases op<;>simp only[qz]
  case binOp o t x y u=>rw[h x (by simp[Op.operands]),h y (by simp[Op.operands])]
  case convert s d x=>rw[h x (by simp[Op.operands])]
  case index t x ix=>
   have e:=h ix (by simp[Op.operands])
   cases x<;>(try rfl)
   case const v=>cases v<;>(try rfl);simp only[e]
 have e:∀x∈op.operands.toList,fE ρ x=fE ρ' x:=fun x hx=>by simp only[fE,h x hx]
 have h4:nI T Γ K ρ st op=nI T Γ K ρ' st op:=by
  cases op<;>simp only[nI]
  case makeSlice t a b=>rw[zD e,e b (by simp[Op.operands])]
  case slice t x lo hi mx=>
   have e1:∀d,cR ρ d lo=cR ρ' d lo:=fun d=>uA fun y hy=>h y (by simp[Op.operands,hy])
   have e2:∀d,cR ρ d hi=cR ρ' d hi:=fun d=>uA fun y hy=>h y (by simp[Op.operands,hy])
   have e3:∀d,cR ρ d mx=cR ρ' d mx:=fun d=>uA fun y hy=>h y (by simp[Op.operands,hy])
   cases mx with
   |some m=>
    simp only[nI]
    rw[e x (by simp[Op.operands])]
    simp only[e1,e2,e3]
   |none=>
    simp only[nI]
    rw[h x (by simp[Op.operands])]
    simp only[e1,e2]
  case call c=>
   have hc:lN T Γ K ρ st c=lN T Γ K ρ' st c:=zD (op:=.call c) h
   have hcn:lN T Γ K (fE ρ) st c=lN T Γ K (fE ρ') st c:=zD (op:=.call c) e
   have ha:∀x∈c.args.toList,ρ x=ρ' x:=fun x hx=>h x (by simp[Op.operands,Call.operands];right;simpa using hx)
   have e1:∀x,ρ x=ρ' x->fE ρ x=fE ρ' x:=fun x hx=>by simp only[fE,hx]
   rw[hc,hcn]
   obtain⟨callee,args,argTypes⟩:=c
   cases callee with
   |value f=>rfl
   |invoke r m=>rfl
   |builtin b=>
    cases b<;>try rfl
    all_goals
     simp only at ha ⊢
     generalize args.toList=l at ha ⊢
     cases argTypes[0]?<;>try rfl
     all_goals (try (cases argTypes[1]?<;>try rfl))
     all_goals
      match l,ha with
      |[],_=>rfl
      |[a],ha=>first|rfl|simp only[ha a (by simp)]
      |[a,b],ha=>first|rfl|simp only[ha a (by simp),e1 b (ha b (by simp))]
      |_::_::_::_,_=>rfl
 unfold mz
 rw[h1,h2,h3,h4,zD h]
theorem Lu {st st':aG}:∀{ks:List Nat},(∀k∈ks,look k st=look k st')->pick st ks=pick st' ks
 |[],_=>rfl
 |k::ks,h=>by
  have e:pick st ks=pick st' ks:=Lu fun j hj=>h j (List.mem_cons_of_mem _ hj)
  simp only[pick,h k (by simp),e]
theorem ab8 {opsL:List Oper} {s s':aL} {i:Nat} {o:Oper} {r:Rec} (h:oH T Γ orc opsL s i o=some r) (hsl:∀t∈B4 opsL o,look t s.dw=look t s'.dw)
  (hk:∀k∈r.asks,look k s.store=look k s'.store) (hn:s.next=s'.next):oH T Γ orc opsL s' i o=some r:=by
 have hw:qv opsL s.dw o=qv opsL s'.dw o:=by
  unfold qv
  cases hg:o.guard with
  |none=>rfl
  |some gw=>
   obtain⟨g,want⟩:=gw
   simp only
   cases hp:opsL[g]? with
   |none=>rfl
   |some p=>
    simp only
    cases hd:p.dst with
    |none=>rfl
    |some d=>
     simp only
     rw[hsl d (by simp[B4,hg,hp,hd])]
 have hρ:∀x∈o.op.operands.toList,s.iX x=s'.iX x:=fun x hx=>by
  cases x with
  |tmp t=>exact hsl t (by
    simp only[B4,List.mem_append,List.mem_filterMap]
    exact .inl ⟨_,hx,rfl⟩)
  |_=>rfl
 unfold oH at h ⊢
 simp only[force_eq]at h ⊢
 rw[<-hw]
 cases hb:qv opsL s.dw o with
 |none=>rw[hb]at h;simp at h
 |some b=>
  rw[hb]at h
  cases b with
  |false=>exact h
  |true=>
   simp only at h ⊢
   rw[<-hn]
   have hasks:r.asks=nV s.store s.iX o.op:=by
    split at h
    ·simp only[aB]at h;subst h;rfl
    ·split at h
     ·simp at h
     ·split at h
      ·simp only[aB]at h;subst h;rfl
      ·simp at h
   rw[hasks]at hk
   rw[<-WW hρ hk,<-Lu hk,<-II hρ]
   have:∀st',mz T Γ (s.next+dn*i) s'.iX st' o.op=mz T Γ (s.next+dn*i) s.iX st' o.op:=fun st'=>(II hρ).symm
   simp only[this]
   exact h
end locality
def fX {α:Type} (W:Nat->Option α) (S:Nat->Bool):Nat->Option α
 |0=>none
 |n+1=>if S n then(match W n with
  |some v=>some v
  |none=>fX W S n)else fX W S n
theorem p8 {α:Type} {W:Nat->Option α} {S S':Nat->Bool}:∀{n:Nat},(∀j,j<n->W j≠none->S j=S' j)->fX W S n=fX W S' n
 |0,_=>rfl
 |n+1,h=>by
  have ih:=p8 (W:=W) (S:=S) (S':=S') (n:=n) fun j hj=>h j aa
  simp only[fX]
  cases hW:W n with
  |none=>cases S n<;>cases S' n<;>simp[ih]
  |some v=>rw[h n aa (by simp[hW]),ih]
theorem DS {α:Type} {W:Nat->Option α} {S:Nat->Bool} {i:Nat} (hi:S i=false):∀{n:Nat},i<n->(∀j,i<j->j<n->S j=true->W j=none)->
  fX W (fun j=>S j||j==i) n=match W i with
   |some v=>some v
   |none=>fX W S n
 |0,h,_=>aa
 |n+1,h,hl=>by
  simp only[fX]
  by_cases hn:n=i
  ·subst hn
   have:fX W (fun j=>S j||j==n) n=fX W S n:=p8 fun j hj _=>by
    have:(j==n)=false:=by simp;omega
    simp[this]
   simp[hi,this]
  ·have ih:=DS (W:=W) hi (n:=n) aa fun j h1 h2=>hl j h1 aa
   have hni:(n==i)=false:=by simpa using hn
   simp only[hni,Bool.or_false]
   cases hS:S n with
   |false=>simpa [hS]using ih
   |true=>
    have:=hl n aa aa hS
    simp[this,ih]
def lH (S:Nat->Bool):Nat->Nat
 |0=>0
 |n+1=>lH S n+if S n then 0 else 1
theorem Hr {S:Nat->Bool}:∀{n:Nat},lH S n=0->∀i,i<n->S i=true
 |0,_,i,h=>aa
 |n+1,h,i,hi=>by
  simp only[lH]at h
  by_cases hn:i=n
  ·subst hn
   cases hs:S i with
   |true=>rfl
   |false=>rw[hs]at h;simp at h
  ·exact Hr (n:=n) aa i aa
theorem M3 {S:Nat->Bool} {i:Nat} (hi:S i=false):∀{n:Nat},i<n->lH (fun j=>S j||j==i) n+1=lH S n
 |0,h=>aa
 |n+1,h=>by
  simp only[lH]
  by_cases hn:n=i
  ·subst hn
   have:lH (fun j=>S j||j==n) n=lH S n:=by
    have:∀m,m<=n->lH (fun j=>S j||j==n) m=lH S m:=by
     intro m
     induction m with
     |zero=>intro _;rfl
     |succ m ih=>
      intro hm
      have h1:(m==n)=false:=by simp;omega
      simp only[lH,h1,Bool.or_false,ih aa]
    exact this n aX
   simp[hi,this]
  ·have ih:=M3 (S:=S) hi (n:=n) aa
   have hni:(n==i)=false:=by simpa using hn
   simp only[hni,Bool.or_false]
   omega
theorem aaY {n:Nat}:lH (fun _=>false) n=n:=by
 induction n with
 |zero=>rfl
 |succ n ih=>simp[lH,ih]
theorem u7 {a b:List Nat} {x:Nat} (ha:x∈a) (hb:x∈b):meet a b=true:=by
 simp only[meet,List.any_eq_true]
 exact⟨x,ha,x,hb,by simp⟩
def Down (opsL:List Oper) (S:Nat->Bool):Prop:=∀(i:Nat) (o:Oper),opsL[i]?=some o->S i=true->∀e∈o.after.toList,Region.binds .any e=true->S e.on=true
theorem Lq {acc:List Nat} {j:Nat}:∀(es:List Edge) (m:Nat),(es.foldl (fun m e=>if Region.binds .any e then m|||(1<<<e.on)|||acc.getD e.on 0 else m) m).testBit j=true->
  m.testBit j=true\/∃e∈es,Region.binds .any e=true/\(j=e.on\/(acc.getD e.on 0).testBit j=true)
 |[],m,h=>.inl h
 |e::es,m,h=>by
  simp only[List.foldl_cons]at h
  rcases Lq es _ h with h1|⟨e',h1,h2,h3⟩
  ·split at h1
   ·rename_i hb
    simp only[Nat.testBit_or,Bool.or_eq_true]at h1
    rcases h1 with(h1|h1)|h1
    ·exact .inl h1
    ·refine .inr ⟨e,by simp,hb,.inl ?_⟩
     simp only[Nat.one_shiftLeft,Nat.testBit_two_pow,bI]at h1
     exact h1.symm
    ·exact .inr ⟨e,by simp,hb,.inr h1⟩
   ·exact .inl h1
  ·exact .inr ⟨e',by simp[h1],h2,h3⟩
theorem HW {opsL:List Oper} {S:Nat->Bool} (hd:Down opsL S):∀(l done:List Oper) (acc:List Nat),opsL=done++l->acc.length=done.length->
  (∀(i m:Nat) (o:Oper),acc[i]?=some m->opsL[i]?=some o->(∀e∈o.after.toList,Region.binds .any e=true->S e.on=true)->∀j,m.testBit j=true->S j=true)->
  (qy l acc).length=opsL.length/\∀(i m:Nat) (o:Oper),(qy l acc)[i]?=some m->opsL[i]?=some o->(∀e∈o.after.toList,Region.binds .any e=true->S e.on=true)->∀j,m.testBit j=true->S j=true
 |[],done,acc,he,hl,h=>by simp only[qy];exact⟨by rw[hl,he];simp,h⟩
 |o::l,done,acc,he,hl,h=>by
  simp only[qy]
  refine HW hd l (done++[o]) _ (by simp[he]) (by simp[hl]) fun i m p hi hp hedge j hj=>?_
  by_cases hlt:i<acc.length
  ·rw[List.getElem?_append_left hlt]at hi
   exact h i m p hi hp hedge j hj
  ·have hil:i<(acc++[o.after.toList.foldl (fun m e=>if Region.binds .any e then m|||(1<<<e.on)|||acc.getD e.on 0 else m) 0]).length:=(List.getElem?_eq_some_iff.1 hi).1
   simp only[List.length_append,List.length_cons,List.length_nil]at hil
   have hi':i=acc.length:=aa
   subst hi'
   simp only[List.getElem?_concat_length,aB]at hi
   subst hi
   have hpo:p=o:=by
    rw[he,hl]at hp
    simpa using hp.symm
   subst hpo
   rcases Lq _ _ hj with h1|⟨e,h1,h2,h3⟩
   ·simp at h1
   ·rcases h3 with rfl|h3
    ·exact hedge e h1 h2
    ·rw[List.getD_eq_getElem?_getD]at h3
     cases hm:acc[e.on]? with
     |none=>rw[hm]at h3;simp at h3
     |some m'=>
      rw[hm]at h3
      have hlt2:=(List.getElem?_eq_some_iff.1 hm).1
      have ho:∃p',opsL[e.on]?=some p':=by
       rw[he]
       exact⟨_,List.getElem?_eq_getElem (by simp;omega)⟩
      obtain⟨p',hp'⟩:=ho
      exact h e.on m' p' hm hp' (hd e.on p' hp' (hedge e h1 h2)) j h3
theorem ye {ops:List Oper}:∀{l:List Oper} {rs:List Rec} {as':List Nat} {i:Nat} {o:Oper} {r:Rec} {a:Nat},l[i]?=some o->rs[i]?=some r->as'[i]?=some a->
  (vp l rs as' ops)[i]?=some (nF ops o r,a)
 |o'::l,r'::rs,a'::as',0,o,r,a,h1,h2,h3=>by simp at h1 h2 h3;subst h1;subst h2;subst h3;simp[vp]
 |o'::l,r'::rs,a'::as',i+1,o,r,a,h1,h2,h3=>by
  simp only[vp,List.getElem?_cons_succ]
  exact ye (by simpa using h1) (by simpa using h2) (by simpa using h3)
 |[],_,_,i,o,r,a,h1,_,_=>by simp at h1
 |_::_,[],_,i,o,r,a,_,h2,_=>by simp at h2
 |_::_,_::_,[],i,o,r,a,_,_,h3=>by simp at h3
theorem Im {i:Nat} {t:Touch}:∀{l:List (Touch×Nat)} {j:Nat} {u:Touch} {a:Nat},yl i t l=true->l[j]?=some (u,a)->t.ov u=true->a.testBit i=true
 |[],j,u,a,_,h,_=>by simp at h
 |(u',a')::l,0,u,a,h,hj,hc=>by
  simp at hj
  obtain⟨rfl,rfl⟩:=hj
  simp only[yl,Bool.and_eq_true,Bool.or_eq_true,Bool.not_eq_true']at h
  rcases h.1 with h1|h1
  ·rw[hc]at h1;simp at h1
  ·exact h1
 |(u',a')::l,j+1,u,a,h,hj,hc=>by
  simp only[yl,Bool.and_eq_true]at h
  exact Im h.2 (by simpa using hj) hc
theorem Fb:∀{l:List (Touch×Nat)} {b i j:Nat} {t u:Touch} {a a':Nat},uX l b=true->l[i]?=some (t,a)->l[j]?=some (u,a')->i<j->t.ov u=true->a'.testBit (b+i)=true
 |[],b,i,j,t,u,a,a',_,h,_,_,_=>by simp at h
 |(t',x)::l,b,0,j,t,u,a,a',h,hi,hj,hij,hc=>by
  simp at hi
  obtain⟨rfl,rfl⟩:=hi
  simp only[uX,Bool.and_eq_true]at h
  cases j with
  |zero=>omega
  |succ j=>simpa using Im h.1 (by simpa using hj) hc
 |(t',x)::l,b,i+1,j,t,u,a,a',h,hi,hj,hij,hc=>by
  simp only[uX,Bool.and_eq_true]at h
  cases j with
  |zero=>omega
  |succ j=>
   have:=Fb h.2 (by simpa using hi) (by simpa using hj) aa hc
   have e:b+1+i=b+(i+1):=aa
   rwa [e]at this
theorem IB:∀{l:List Oper} {b i:Nat} {o:Oper},uR l b=true->l[i]?=some o->∀e∈o.after.toList,Region.binds .any e=true->e.on<b+i
 |[],b,i,o,_,h,_,_,_=>by simp at h
 |o'::l,b,0,o,h,hi,e,he,hb=>by
  simp at hi
  subst hi
  simp only[uR,Bool.and_eq_true,List.all_eq_true,Bool.or_eq_true,Bool.not_eq_true',bI]at h
  rcases h.1 e he with h1|h1
  ·rw[hb]at h1;simp at h1
  ·simpa using h1
 |o'::l,b,i+1,o,h,hi,e,he,hb=>by
  simp only[uR,Bool.and_eq_true]at h
  have:=IB h.2 (by simpa using hi) e he hb
  omega
end Go.Am
namespace Go.Am
open AV
theorem G7 {α:Type} {W:Nat->Option α}:∀{n:Nat},fX W (fun _=>true) (n+1)=match fX (fun q=>W (q+1)) (fun _=>true) n with
  |some v=>some v
  |none=>W 0
 |0=>by simp only[fX,if_true];cases W 0<;>rfl
 |n+1=>by
  have ih:=G7 (W:=W) (n:=n)
  rw[fX,if_pos rfl,ih]
  simp only[fX,if_true]
  cases W (n+1)<;>rfl
def kG (l:List Oper) (rs:List Rec) (t:Nat) (q:Nat):Option AV:=
 match l[q]?,rs[q]? with
 |some o,some r=>if o.dst=some t then some r.res.val else none
 |_,_=>none
def kQ (l:List Oper) (rs:List Rec) (k:Nat) (q:Nat):Option (Option aC):=
 match l[q]?,rs[q]? with
 |some _,some r=>dj r.res.cI k
 |_,_=>none
def orElse {α:Type} (a:Option α) (b:Option α):Option α:=match a with
 |some v=>some v
 |none=>b
def vc (a:Option (Option aC)) (b:Option aC):Option aC:=match a with
 |some r=>r
 |none=>b
section trace
variable {T:Types} {Γ:bG} {orc:List (Nat×Bool)}
theorem DB {opsL:List Oper}:∀(l:List Oper) (i:Nat) (s s':aL) (need:List Prop) (rs:List Rec),mA T Γ orc opsL l i s=some (s',need,rs)->
  rs.length=l.length/\(aF need->∀r∈rs,r.res.need)/\s'.next=s.next/\
  (∀t,look t s'.dw=orElse (fX (kG l rs t) (fun _=>true) l.length) (look t s.dw))/\(∀k,look k s'.store=vc (fX (kQ l rs k) (fun _=>true) l.length) (look k s.store))/\
  ∀(p:Nat) (o:Oper) (r:Rec),l[p]?=some o->rs[p]?=some r->∃sp:aL,oH T Γ orc opsL sp (i+p) o=some r/\sp.next=s.next/\
   (∀t,look t sp.dw=orElse (fX (kG l rs t) (fun _=>true) p) (look t s.dw))/\(∀k,look k sp.store=vc (fX (kQ l rs k) (fun _=>true) p) (look k s.store))
 |[],i,s,s',need,rs,h=>by
  simp only[mA,aB,Prod.mk.injEq]at h
  obtain⟨rfl,rfl,rfl⟩:=h
  exact⟨rfl,fun _ r hr=>by simp at hr,rfl,fun t=>rfl,fun k=>rfl,fun p o r hp=>by simp at hp⟩
 |o::l,i,s,s',need,rs,h=>by
  simp only[mA]at h
  cases hr:oH T Γ orc opsL s i o with
  |none=>rw[hr]at h;simp at h
  |some r=>
   rw[hr]at h
   simp only at h
   cases ht:mA T Γ orc opsL l (i+1) (p9 s o r.res)with
   |none=>rw[ht]at h;simp at h
   |some q=>
    obtain⟨s1,n1,rs1⟩:=q
    rw[ht]at h
    simp only[aB,Prod.mk.injEq]at h
    obtain⟨rfl,rfl,rfl⟩:=h
    obtain⟨h1,h2,h3,h4,h5,h6⟩:=DB l (i+1) (p9 s o r.res) s1 n1 rs1 ht
    have eS:∀t,(fun q=>kG (o::l) (r::rs1) t (q+1))=kG l rs1 t:=fun t=>by funext q;simp[kG]
    have eK:∀k,(fun q=>kQ (o::l) (r::rs1) k (q+1))=kQ l rs1 k:=fun k=>by funext q;simp[kQ]
    have gS:∀t n,orElse (fX (kG l rs1 t) (fun _=>true) n) (look t (p9 s o r.res).dw)=orElse (fX (kG (o::l) (r::rs1) t) (fun _=>true) (n+1)) (look t s.dw):=fun t n=>by
     rw[G7,eS]
     cases fX (kG l rs1 t) (fun _=>true) n with
     |some v=>rfl
     |none=>
      simp only[orElse,p9,BC,kG,List.getElem?_cons_zero]
      split<;>rfl
    have gK:∀k n,vc (fX (kQ l rs1 k) (fun _=>true) n) (look k (p9 s o r.res).store)=vc (fX (kQ (o::l) (r::rs1) k) (fun _=>true) (n+1)) (look k s.store):=fun k n=>by
     rw[G7,eK]
     cases fX (kQ l rs1 k) (fun _=>true) n with
     |some v=>rfl
     |none=>
      simp only[vc,p9,lE,kQ,List.getElem?_cons_zero]
      cases dj r.res.cI k<;>rfl
    refine⟨by simp[h1],fun hn r' hr'=>?_,h3,fun t=>?_,fun k=>?_,fun p o' r' hp hrp=>?_⟩
    ·rcases List.mem_cons.1 hr' with rfl|hr'
     ·exact(iy.1 hn).1
     ·exact h2 (iy.1 hn).2 r' hr'
    ·rw[h4 t,gS];rfl
    ·rw[h5 k,gK];rfl
    ·cases p with
     |zero=>
      simp only[List.getElem?_cons_zero,aB]at hp hrp
      subst hp;subst hrp
      exact⟨s,hr,rfl,fun t=>rfl,fun k=>rfl⟩
     |succ p=>
      obtain⟨sp,a1,a2,a3,a4⟩:=h6 p o' r' (by simpa using hp) (by simpa using hrp)
      refine⟨sp,by rw[<-a1];congr 1;omega,a2,fun t=>?_,fun k=>?_⟩
      ·rw[a3 t,gS]
      ·rw[a4 k,gK]
end trace
section region
variable {c:Ctx} {P:Program} {T:Types} (hT:eW P T) {Γ:bG} (hΓ:cm P Γ) {orc:List (Nat×Bool)}
theorem bk.ext {st st':aG} {D:Nat->Prop} {β:aZ} {w:World} (h:bk c st D β w) (he:∀k,look k st=look k st'):bk c st' D β w/\aP c st' β=aP c st β:=by
 have hM:aP c st' β=aP c st β:=by
  funext b
  simp only[aP,he]
 refine⟨?_,hM⟩
 refine {h with obj:=fun k o hk x hx=>?_,eH:=fun k o hk=>h.eH k o (by rw[he];exact hk),inj:=fun k k' o o' b N N' h1 h2=>?_,new:=fun k o b N h1=>?_}
 ·rw[hM];exact h.obj k o (by rw[he];exact hk) x hx
 ·exact h.inj k k' o o' b N N' (by rw[he];exact h1) (by rw[he];exact h2)
 ·exact h.new k o b N (by rw[he];exact h1)
theorem Rel.ext {nt:Nat} {D D':Nat->Prop} {sl sl':List (Nat×AV)} {st st':aG} {a:Act} {w:World} (h:Rel c nt D sl st a w) (h1:∀t,look t sl=look t sl') (h2:∀k,look k st=look k st')
  (hD:∀k,D k->D' k):Rel c nt D' sl' st' a w:=by
 obtain⟨a1,a2,β,a3,a4⟩:=h
 obtain⟨b1,b2⟩:=a3.ext h2
 refine⟨a1,a2,β,b1.m7 hD,fun t v ht=>?_⟩
 rw[b2]
 exact a4 t v (by rw[h1];exact ht)
theorem Kw {ops:Array Oper} {i:Nat} {o:Oper} (ho:ops[i]?=some o) {a:Act} {w:World} {K:Act->World->Prop} {Q:Exit->Act->World->Prop}
  (h:if Region.wanted o (yielded ops a.tmps)then o.wpIn (iN c.ro) 3 P a w K Q else(∀f,o.about P w a.eval=some f->(iN c.ro).fn f)/\K (a.put o.dst undef) w):wpOpIn (iN c.ro) 3 P ops Q i K a w:=by
 unfold wpOpIn
 simp only[ho]
 split
 ·rename_i hw;rw[if_pos hw]at h;exact h
 ·rename_i hw;rw[if_neg hw]at h;exact h
def Pj (N0 n:Nat) (S:Nat->Bool) (k:Nat):Prop:=k<N0\/∃i,i<n/\S i=true/\N0+dn*i<=k/\k<N0+dn*i+dn
theorem Qh {N0 i j k:Nat} (h1:N0+dn*i<=k) (h2:k<N0+dn*i+dn) (h3:N0+dn*j<=k) (h4:k<N0+dn*j+dn):i=j:=by
 simp only[dn]at*
 omega
include hT hΓ in
theorem MC {ops:Array Oper} {nt N0:Nat} (hdst:∀o∈ops.toList,∀d,o.dst=some d->d<nt) {Q:Exit->Act->World->Prop}:
  ∀(l done:List Oper) (s s':aL) (need:List Prop) (rs:List Rec) (a:Act) (w:World),ops.toList=done++l->s.next=N0->mA T Γ orc ops.toList l done.length s=some (s',need,rs)->aF need->
   Rel c nt (fun k=>k<N0+dn*done.length) s.dw s.store a w->
   (∀a' w',Rel c nt (fun k=>k<N0+dn*ops.size) s'.dw s'.store a' w'->Q .normal a' w')->wpOpsIn (iN c.ro) 3 P ops Q (List.range' done.length l.length) a w
 |[],done,s,s',need,rs,a,w,hops,hN,hr,hn,hrel,hQ=>by
  simp only[mA,aB,Prod.mk.injEq]at hr
  obtain⟨rfl,rfl,rfl⟩:=hr
  simp only[List.length_nil,List.range'_zero,wpOpsIn]
  refine hQ a w (hrel.ext (fun _=>rfl) (fun _=>rfl) fun k hk=>?_)
  have:ops.size=done.length:=by rw[<-Array.length_toList,hops];simp
  rw[this];exact hk
 |o::l,done,s,s',need,rs,a,w,hops,hN,hr,hn,hrel,hQ=>by
  simp only[mA]at hr
  cases hrec:oH T Γ orc ops.toList s done.length o with
  |none=>rw[hrec]at hr;simp at hr
  |some r=>
   rw[hrec]at hr
   simp only at hr
   cases ht:mA T Γ orc ops.toList l (done.length+1) (p9 s o r.res)with
   |none=>rw[ht]at hr;simp at hr
   |some q=>
    obtain⟨s1,n1,rs1⟩:=q
    rw[ht]at hr
    simp only[aB,Prod.mk.injEq]at hr
    obtain⟨rfl,rfl,rfl⟩:=hr
    rw[List.length_cons,List.range'_succ,wpOpsIn_cons]
    have ho:ops[done.length]?=some o:=by rw[<-Array.getElem?_toList,hops];simp
    refine Kw ho (LG (D':=fun k=>k<N0+dn*(done++[o]).length) hT hΓ (N0:=s.next) (i:=done.length) hrel (by cases s;exact hrec) (iy.1 hn).1
     (fun d hd=>hdst o (by rw[hops];simp) d hd) (fun k hk=>?_) (fun k h1 h2=>?_) fun a' w' hrel'=>?_)
    ·simp only[List.length_append,List.length_cons,List.length_nil,dn]at hk ⊢;omega
    ·simp only[List.length_append,List.length_cons,List.length_nil,dn]at h1 h2 ⊢;omega
    ·have:=MC hdst l (done++[o]) (p9 s o r.res) s1 n1 rs1 a' w' (by simp[hops]) hN (by simpa using ht) (iy.1 hn).2 hrel' hQ
     simpa using this
theorem CK {α:Type} {W:Nat->Option α} {i:Nat}:∀{n:Nat},i<=n->fX W (fun j=>decide (j<i)) n=fX W (fun _=>true) i
 |0,h=>by
    have:i=0:=aa
    subst this;rfl
 |n+1,h=>by
  by_cases hn:i=n+1
  ·subst hn
   exact p8 fun j hj _=>by simpa using hj
  ·have ih:=CK (W:=W) (i:=i) (n:=n) aa
   have:decide (n<i)=false:=by simp;omega
   simp only[fX,this,Bool.false_eq_true,if_false]
   exact ih
theorem A9 {k:Nat}:∀{cI:List (Nat×Option aC)} {r:Option aC},dj cI k=some r->k∈cI.map (·.1)
 |[],r,h=>by simp[dj]at h
 |(j,o)::l,r,h=>by
  simp only[dj]at h
  cases he:dj l k with
  |some r'=>simp only[List.map_cons,List.mem_cons];exact .inr (A9 he)
  |none=>
   rw[he]at h
   simp only at h
   split at h
   ·rename_i hjk
    have:j=k:=by simpa using hjk
    simp[this]
   ·simp at h
theorem So {l:Array Bool} {i j:Nat} (hi:i<l.size):(l.setIfInBounds i true).getD j false=(l.getD j false||j==i):=by
 simp only[Array.getD_eq_getD_getElem?,Array.getElem?_setIfInBounds]
 by_cases h:i=j
 ·subst h;simp[hi]
 ·have:(j==i)=false:=by simp;omega
  simp[h,this]
include hT hΓ in
theorem Z8 {ops:Array Oper} {nt:Nat} (hdst:∀o∈ops.toList,∀d,o.dst=some d->d<nt) {Q:Exit->Act->World->Prop} {s s':aL} {need:List Prop} {rs:List Rec}
  (hrun:mA T Γ orc ops.toList ops.toList 0 s=some (s',need,rs)) (hneed:aF need) (hE:uR ops.toList 0=true) (hA:uX (vp ops.toList rs (qy ops.toList []) ops.toList) 0=true)
  (hQ:∀a' w',Rel c nt (fun k=>k<s.next+dn*ops.size) s'.dw s'.store a' w'->Q .normal a' w') {a:Act} {w:World} (hrel:Rel c nt (fun k=>k<s.next) s.dw s.store a w):
  wpAnyIn (iN c.ro) 3 P .any ops Q ops.size (Array.replicate ops.size false) a w:=by
 obtain⟨t1,t2,t3,t4,t5,t6⟩:=DB ops.toList 0 s s' need rs hrun
 have hsz:ops.toList.length=ops.size:=Array.length_toList
 -- the invariant
 let Inv:(Nat->Bool)->Act->World->Prop:=fun S a w=>∃sl st,(∀t,look t sl=orElse (fX (kG ops.toList rs t) S ops.size) (look t s.dw))/\
  (∀k,look k st=vc (fX (kQ ops.toList rs k) S ops.size) (look k s.store))/\Rel c nt (Pj s.next ops.size S) sl st a w
 have hend:∀(S:Nat->Bool) (a:Act) (w:World),(∀i,i<ops.size->S i=true)->Inv S a w->Q .normal a w:=by
  rintro S a w hall ⟨sl,st,h1,h2,h3⟩
  refine hQ a w (h3.ext (fun t=>?_) (fun k=>?_) fun k hk=>?_)
  ·rw[h1 t,t4 t,hsz]
   congr 1
   exact p8 fun j hj _=>hall j hj
  ·rw[h2 k,t5 k,hsz]
   congr 1
   exact p8 fun j hj _=>hall j hj
  ·rcases hk with hk|⟨i,hi,_,_,hk⟩
   ·simp only[dn]at*;omega
   ·simp only[dn]at*;omega
 have main:∀(fuel:Nat) (listed:Array Bool) (a:Act) (w:World),listed.size=ops.size->Down ops.toList (fun i=>listed.getD i false)->lH (fun i=>listed.getD i false) ops.size<=fuel->
   Inv (fun i=>listed.getD i false) a w->wpAnyIn (iN c.ro) 3 P .any ops Q fuel listed a w:=by
  intro fuel
  induction fuel with
  |zero=>
   intro listed a w hl hd hlk hinv
   have hall:=Hr (show lH (fun i=>listed.getD i false) ops.size=0 by omega)
   refine⟨?_,hend _ a w hall hinv⟩
   simp only[Region.ready,List.filter_eq_nil_iff,List.mem_range,Bool.and_eq_true,Bool.not_eq_true',not_and]
   intro i hi h
   have:=hall i hi
   simp only[Array.getD_eq_getD_getElem?]at this h
   rw[Array.getElem?_eq_getElem aa]at this h
   simp at this h
   rw[this]at h;simp at h
  |succ fuel ih=>
   intro listed a w hl hd hlk hinv
   have hgd:∀i,i<ops.size->listed.getD i true=listed.getD i false:=fun i hi=>by
    simp only[Array.getD_eq_getD_getElem?]
    rw[Array.getElem?_eq_getElem aa];rfl
   have hready:∀i,i∈Region.ready .any ops listed↔i<ops.size/\listed.getD i false=false/\∀o,ops.toList[i]?=some o->∀e∈o.after.toList,Region.binds .any e=true->listed.getD e.on false=true:=fun i=>by
    simp only[Region.ready,List.mem_filter,List.mem_range,Bool.and_eq_true,Bool.not_eq_true']
    constructor
    ·rintro⟨h1,h2,h3⟩
     refine⟨h1,by rw[<-hgd i h1];exact h2,fun o ho e he hb=>?_⟩
     have ho':ops[i]?=some o:=by simpa using ho
     rw[ho']at h3
     simp only[Option.map_some,Option.getD_some,Array.all_eq_true_iff_forall_mem,Bool.or_eq_true,Bool.not_eq_true']at h3
     rcases h3 e (by simpa using he)with h4|h4
     ·rw[hb]at h4;simp at h4
     ·exact h4
    ·rintro⟨h1,h2,h3⟩
     refine⟨h1,by rw[hgd i h1];exact h2,?_⟩
     have ho':ops[i]?=some ops[i]:=Array.getElem?_eq_getElem h1
     rw[ho']
     simp only[Option.map_some,Option.getD_some,Array.all_eq_true_iff_forall_mem,Bool.or_eq_true,Bool.not_eq_true']
     intro e he
     cases hb:Region.binds .any e with
     |false=>exact .inl rfl
     |true=>exact .inr (h3 ops[i] (by simp[h1]) e (by simpa using he) hb)
   refine⟨fun hnil=>?_,fun i hi=>?_⟩
   ·refine hend _ a w (fun i=>?_) hinv
    induction i using Nat.strongRecOn with
    |_ i ihi=>
     intro hi
     cases hl':listed.getD i false with
     |true=>rfl
     |false=>
      have:i∈Region.ready .any ops listed:=(hready i).2 ⟨hi,hl',fun o ho e he hb=>by
       have hlt:=IB hE ho e he hb
       exact ihi e.on aa aa⟩
      rw[hnil]at this
      simp at this
   ·obtain⟨h1,h2,h3⟩:=(hready i).1 hi
    have ho:ops.toList[i]?=some ops[i]:=by simp[h1]
    generalize ops[i]=o at ho
    obtain⟨r,hr⟩:∃r,rs[i]?=some r:=⟨_,List.getElem?_eq_getElem aa⟩
    obtain⟨sp,q1,q2,q3,q4⟩:=t6 i o r ho hr
    rw[Nat.zero_add]at q1
    have hi2:listed.getD i false=false:=h2
    have hanc:=HW hd ops.toList [] [] rfl rfl (fun i m o h=>by simp at h)
    -- order of what clashes
    have hclash:∀(j:Nat) (o':Oper) (r':Rec),ops.toList[j]?=some o'->rs[j]?=some r'->j≠i->
      ((nF ops.toList o' r').ov (nF ops.toList o r)=true/\j<i\/(nF ops.toList o r).ov (nF ops.toList o' r')=true/\i<j)->listed.getD j false=decide (j<i):=by
     intro j o' r' hj hrj hne hc
     have hai:∀q (o:Oper),ops.toList[q]?=some o->∃m,(qy ops.toList [])[q]?=some m:=fun q o hq=>
      ⟨_,List.getElem?_eq_getElem (by rw[hanc.1];exact(List.getElem?_eq_some_iff.1 hq).1)⟩
     obtain⟨mi,hmi⟩:=hai i o ho
     obtain⟨mj,hmj⟩:=hai j o' hj
     rcases hc with⟨hc,hlt⟩|⟨hc,hlt⟩
     ·have hb:=Fb hA (ye hj hrj hmj) (ye ho hr hmi) hlt hc
      rw[Nat.zero_add]at hb
      have:=hanc.2 i mi o hmi ho (h3 o ho) j hb
      simp only[hlt,decide_true];exact this
     ·have hb:=Fb hA (ye ho hr hmi) (ye hj hrj hmj) hlt hc
      rw[Nat.zero_add]at hb
      have:decide (j<i)=false:=by simp;omega
      rw[this]
      cases hS:listed.getD j false with
      |false=>rfl
      |true=>
       have:=hanc.2 j mj o' hmj hj (hd j o' hj hS) i hb
       simp only[hi2]at this
       simp at this
    obtain⟨sl,st,v1,v2,v3⟩:=hinv
    -- the operation FL here what it did in the order of the text
    have hloc:oH T Γ orc ops.toList ⟨sl,st,s.next⟩ i o=some r:=by
     refine ab8 q1 (fun t ht=>?_) (fun k hk=>?_) q2
     ·rw[q3 t,v1 t]
      congr 1
      rw[<-CK (show i<=ops.size by omega)]
      refine p8 fun j hj hW=>?_
      by_cases hji:j=i
      ·subst hji;simp only[hi2];simp
      ·unfold kG at hW
       cases hoj:ops.toList[j]? with
       |none=>simp[hoj]at hW
       |some o'=>
        cases hrj:rs[j]? with
        |none=>simp[hoj,hrj]at hW
        |some r'=>
         have hdj:o'.dst=some t:=by
          simp only[hoj,hrj]at hW
          by_cases hd:o'.dst=some t
          ·exact hd
          ·simp[hd]at hW
         refine(hclash j o' r' hoj hrj hji ?_).symm
         rcases Nat.lt_or_gt_of_ne hji with hlt|hgt
         ·refine .inl ⟨?_,hlt⟩
          simp only[Touch.ov,nF,Bool.or_eq_true]
          exact .inl (.inl (.inl (.inl (.inl (u7 (x:=t) (by simp[hdj]) ht)))))
         ·refine .inr ⟨?_,hgt⟩
          simp only[Touch.ov,nF,Bool.or_eq_true]
          exact .inl (.inl (.inl (.inr (u7 (x:=t) ht (by simp[hdj])))))
     ·rw[q4 k,v2 k]
      congr 1
      rw[<-CK (show i<=ops.size by omega)]
      refine p8 fun j hj hW=>?_
      by_cases hji:j=i
      ·subst hji;simp only[hi2];simp
      ·unfold kQ at hW
       cases hoj:ops.toList[j]? with
       |none=>simp[hoj]at hW
       |some o'=>
        cases hrj:rs[j]? with
        |none=>simp[hoj,hrj]at hW
        |some r'=>
         have hkj:k∈r'.res.cI.map (·.1):=by
          simp only[hoj,hrj]at hW
          cases he:dj r'.res.cI k with
          |none=>simp[he]at hW
          |some x=>exact A9 he
         refine(hclash j o' r' hoj hrj hji ?_).symm
         rcases Nat.lt_or_gt_of_ne hji with hlt|hgt
         ·refine .inl ⟨?_,hlt⟩
          simp only[Touch.ov,nF,Bool.or_eq_true]
          exact .inl (.inl (.inr (u7 (x:=k) hkj hk)))
         ·refine .inr ⟨?_,hgt⟩
          simp only[Touch.ov,nF,Bool.or_eq_true]
          exact .inr (u7 (x:=k) hk hkj)
    have hmem:r∈rs:=List.mem_of_getElem? hr
    refine Kw (by simpa using ho) (LG (D':=Pj s.next ops.size (fun j=>listed.getD j false||j==i)) hT hΓ v3 hloc (t2 hneed r hmem) (hdst o (List.mem_of_getElem? ho)) (fun k hk=>?_) (fun k k1 k2=>?_) fun a' w' hrel'=>?_)
    ·rcases hk with hk|⟨j,g1,g2,g3,g4⟩
     ·exact .inl hk
     ·exact .inr ⟨j,g1,by simp only[g2,Bool.true_or],g3,g4⟩
    ·refine⟨?_,.inr ⟨i,h1,by simp,k1,k2⟩⟩
     rintro(hk|⟨j,g1,g2,g3,g4⟩)
     ·omega
     ·have:=Qh g3 g4 k1 k2
      subst this
      simp only[hi2]at g2
      simp at g2
    ·have hS:(fun j=>(listed.setIfInBounds i true).getD j false)=fun j=>listed.getD j false||j==i:=by
      funext j
      exact So aa
     refine ih (listed.setIfInBounds i true) a' w' (by simpa using hl) ?_ ?_ ?_
     ·rw[hS]
      intro j o' hoj hSj e he hb
      by_cases hji:j=i
      ·subst hji
       rw[ho]at hoj
       simp only[aB]at hoj
       subst hoj
       simp only[h3 o ho e he hb,Bool.true_or]
      ·have:(j==i)=false:=by simpa using hji
       simp only[this,Bool.or_false]at hSj
       have:=hd j o' hoj hSj e he hb
       simp only at this
       simp only[this,Bool.true_or]
     ·rw[hS]
      have:=M3 (S:=fun j=>listed.getD j false) (i:=i) hi2 h1
      omega
     ·rw[hS]
      refine⟨_,_,fun t=>?_,fun k=>?_,hrel'⟩
      ·rw[BC,v1 t]
       cases hWi:kG ops.toList rs t i with
       |none=>
        have hnd:¬o.dst=some t:=by
         simp only[kG,ho,hr]at hWi
         intro hd
         simp[hd]at hWi
        rw[if_neg hnd]
        congr 1
        refine p8 fun j hj hW=>?_
        have:(j==i)=false:=by
         simp only[beq_eq_false_iff_ne,ne_eq]
         rintro rfl
         exact hW hWi
        simp only[this,Bool.or_false]
       |some v=>
        have hd':o.dst=some t/\r.res.val=v:=by
         simp only[kG,ho,hr]at hWi
         by_cases hd:o.dst=some t
         ·simp only[hd,if_true,aB]at hWi;exact⟨hd,hWi⟩
         ·simp[hd]at hWi
        rw[if_pos hd'.1,DS hi2 h1 fun j hij hjn hSj=>?_,hWi,hd'.2]
        ·rfl
        ·cases hWj:kG ops.toList rs t j with
         |none=>rfl
         |some v'=>
          exfalso
          unfold kG at hWj
          cases hoj:ops.toList[j]? with
          |none=>simp[hoj]at hWj
          |some o'=>
           cases hrj:rs[j]? with
           |none=>simp[hoj,hrj]at hWj
           |some r'=>
            have hdj:o'.dst=some t:=by
             simp only[hoj,hrj]at hWj
             by_cases hd:o'.dst=some t
             ·exact hd
             ·simp[hd]at hWj
            have:=hclash j o' r' hoj hrj aa (.inr ⟨by
             simp only[Touch.ov,nF,Bool.or_eq_true]
             exact .inl (.inl (.inl (.inl (.inr (u7 (x:=t) (by simp[hd'.1]) (by simp[hdj])))))),hij⟩)
            have h5:decide (j<i)=false:=by simp;omega
            rw[h5]at this
            simp only[this]at hSj
            simp at hSj
      ·rw[lE,v2 k]
       cases hWi:kQ ops.toList rs k i with
       |none=>
        have hnd:dj r.res.cI k=none:=by simpa only[kQ,ho,hr]using hWi
        rw[hnd]
        simp only
        congr 1
        refine p8 fun j hj hW=>?_
        have:(j==i)=false:=by
         simp only[beq_eq_false_iff_ne,ne_eq]
         rintro rfl
         exact hW hWi
        simp only[this,Bool.or_false]
       |some v=>
        have hd':dj r.res.cI k=some v:=by simpa only[kQ,ho,hr]using hWi
        rw[hd',DS hi2 h1 fun j hij hjn hSj=>?_,hWi]
        ·rfl
        ·cases hWj:kQ ops.toList rs k j with
         |none=>rfl
         |some v'=>
          exfalso
          unfold kQ at hWj
          cases hoj:ops.toList[j]? with
          |none=>simp[hoj]at hWj
          |some o'=>
           cases hrj:rs[j]? with
           |none=>simp[hoj,hrj]at hWj
           |some r'=>
            simp only[hoj,hrj]at hWj
            have:=hclash j o' r' hoj hrj aa (.inr ⟨by
             simp only[Touch.ov,nF,Bool.or_eq_true]
             exact .inl (.inr (u7 (x:=k) (A9 hd') (A9 hWj))),hij⟩)
            have h5:decide (j<i)=false:=by simp;omega
            rw[h5]at this
            simp only[this]at hSj
            simp at hSj
 have h0:(fun i=>(Array.replicate ops.size false).getD i false)=fun _=>false:=by
  funext i
  simp only[Array.getD_eq_getD_getElem?,Array.getElem?_replicate]
  split<;>rfl
 refine main ops.size _ a w (by simp) ?_ ?_ ?_
 ·rw[h0];intro i o _ h;simp at h
 ·rw[h0,aaY];exact Nat.le_refl _
 ·rw[h0]
  have hnone:∀{α:Type} (W:Nat->Option α) (n:Nat),fX W (fun _=>false) n=none:=fun W n=>by
   induction n with
   |zero=>rfl
   |succ n ih=>simp[fX,ih]
  refine⟨s.dw,s.store,fun t=>by rw[hnone];rfl,fun k=>by rw[hnone];rfl,hrel.ext (fun _=>rfl) (fun _=>rfl) fun k hk=>.inl hk⟩
include hT hΓ in
theorem acW {id:Nat} {ops:Array Oper} {draws:Bool} {nt:Nat} (hm:P.follows .mixedOrders=true) (hdst:(ops.toList.all fun o=>match o.dst with|some d=>decide (d<nt)|none=>true)=true)
  {Q:Exit->Act->World->Prop} {s s':aL} {need:List Prop} (hrun:tV T Γ orc ops draws s=some (s',need)) (hneed:aF need) {a:Act} {w:World} (hrel:Rel c nt (fun k=>k<s.next) s.dw s.store a w)
  (hQ:∀a' w',Rel c nt (fun k=>k<s'.next) s'.dw s'.store a' w'->Q .normal a' w'):(Code.region id ops draws).wpIn (iN c.ro) 3 P Q a w:=by
 have hdst':∀o∈ops.toList,∀d,o.dst=some d->d<nt:=fun o ho d hd=>by
  have:=(List.all_eq_true.1 hdst) o ho
  simpa [hd]using this
 unfold tV at hrun
 simp only[force_eq]at hrun
 cases hr:mA T Γ orc ops.toList ops.toList 0 s with
 |none=>rw[hr]at hrun;simp at hrun
 |some q=>
  obtain⟨s1,n1,rs⟩:=q
  rw[hr]at hrun
  simp only at hrun
  split at hrun
  ·rename_i hc
   simp only[aB,Prod.mk.injEq]at hrun
   obtain⟨rfl,rfl⟩:=hrun
   have hnx:s1.next=s.next:=(DB ops.toList 0 s s1 n1 rs hr).2.2.1
   cases draws with
   |false=>
    refine wpIn_region ?_
    have:=MC hT hΓ hdst' (Q:=Q) ops.toList [] s s1 n1 rs a w rfl rfl hr hneed (by simpa using hrel) (fun a' w' h=>hQ a' w' (by simpa [hnx]using h))
    simpa [List.range_eq_range']using this
   |true=>
    simp only[Bool.not_true,Bool.false_or,Bool.and_eq_true]at hc
    refine wpIn_region_any hm (Z8 hT hΓ hdst' hr hneed hc.1 hc.2 (fun a' w' h=>hQ a' w' (by simpa [hnx]using h)) ?_)
    obtain⟨a1,a2,β,a3,a4⟩:=hrel
    exact⟨a1,a2,β,a3.drew,fun t v ht=>by
     obtain⟨x,hx,hv⟩:=a4 t v ht
     exact⟨x,hx,hv.jf dD.drew⟩⟩
  ·simp at hrun
end region
end Go.Am
namespace Go.Am
open AV
def au.qQ:au->Exit
 |.normal=>.normal
 |.exit i=>.exit i
 |.ret=>.ret
def cE (nt:Nat):Code->Bool
 |.region _ ops _=>ops.toList.all fun o=>match o.dst with
  |some d=>decide (d<nt)
  |none=>true
 |.seq x y=>cE nt x&&cE nt y
 |.cond _ x y=>cE nt x&&cE nt y
 |.block _ x=>cE nt x
 |.loop x=>cE nt x
 |.scope x=>cE nt x
 |.rangeFunc _ _ x y=>cE nt x&&cE nt y
 |_=>true
def aA (P:Program) (c:Ctx) (nt:Nat) (x:Code) (s:aL) (Q:au->aL->Prop):Prop:=
 ∀a w,Rel c nt (fun k=>k<s.next) s.dw s.store a w->x.wpIn (iN c.ro) 3 P (fun e a' w'=>∃ae s',e=ae.qQ/\Rel c nt (fun k=>k<s'.next) s'.dw s'.store a' w'/\Q ae s') a w
section rules
variable {P:Program} {c:Ctx} {nt:Nat} {x y:Code} {s:aL} {Q Q':au->aL->Prop}
theorem aA.mono (h:aA P c nt x s Q) (hq:∀e s',Q e s'->Q' e s'):aA P c nt x s Q':=
 fun a w hr=>wpIn_mono (h a w hr) fun _ _ _ ⟨ae,s',h1,h2,h3⟩=>⟨ae,s',h1,h2,hq _ _ h3⟩
theorem aA.skip (h:Q .normal s):aA P c nt .skip s Q:=fun _ _ hr=>wpIn_skip ⟨.normal,s,rfl,hr,h⟩
theorem aA.label {l:Nat} (h:Q .normal s):aA P c nt (.label l) s Q:=fun _ _ hr=>wpIn_label ⟨.normal,s,rfl,hr,h⟩
theorem aA.exit {i:Nat} (h:Q (.exit i) s):aA P c nt (.exit i) s Q:=fun _ _ hr=>wpIn_exit ⟨.exit i,s,rfl,hr,h⟩
theorem aA.ret (h:Q .ret s):aA P c nt .ret s Q:=fun _ _ hr=>wpIn_ret ⟨.ret,s,rfl,hr,h⟩
theorem aA.seq (h:aA P c nt x s fun e s'=>match e with
  |.normal=>aA P c nt y s' Q
  |e=>Q e s'):aA P c nt (.seq x y) s Q:=by
 intro a w hr
 refine wpIn_seq (wpIn_mono (h a w hr) ?_)
 rintro e a' w' ⟨ae,s',rfl,h2,h3⟩
 cases ae with
 |normal=>exact h3 a' w' h2
 |exit i=>exact⟨.exit i,s',rfl,h2,h3⟩
 |ret=>exact⟨.ret,s',rfl,h2,h3⟩
theorem aA.cond {b:Operand} {t:Bool} (hb:s.iX b=some (.bool t)) (h1:t=true->aA P c nt x s Q) (h2:t=false->aA P c nt y s Q):aA P c nt (.cond b x y) s Q:=by
 intro a w hr
 obtain⟨_,_,β,_,hs⟩:=id hr
 have:=(FE hs b _ hb).bool
 cases t
 ·exact wpIn_cond_false this (h2 rfl a w hr)
 ·exact wpIn_cond_true this (h1 rfl a w hr)
theorem aA.block {i:Nat} (h:aA P c nt x s fun e s'=>match e with
  |.exit j=>if j=i then Q .normal s' else Q (.exit j) s'
  |e=>Q e s'):aA P c nt (.block i x) s Q:=by
 intro a w hr
 refine wpIn_block (wpIn_mono (h a w hr) ?_)
 rintro e a' w' ⟨ae,s',rfl,h2,h3⟩
 cases ae with
 |normal=>exact⟨.normal,s',rfl,h2,h3⟩
 |exit j=>
  simp only[au.qQ,Exit.inBlock]
  simp only at h3
  split
  ·rename_i hj;rw[if_pos hj]at h3;exact⟨.normal,s',rfl,h2,h3⟩
  ·rename_i hj;rw[if_neg hj]at h3;exact⟨.exit j,s',rfl,h2,h3⟩
 |ret=>exact⟨.ret,s',rfl,h2,h3⟩
theorem CV {F:Fence} {m:Nat} {α:Type} {c:Code} {R:Exit->Act->World->Prop} (I:α->Act->World->Prop) (μ:α->Nat)
  (round:∀s a w,I s a w->c.wpIn F m P (Exit.then (fun a' w'=>∃s',I s' a' w'/\μ s'<μ s) R) a w) {s:α} {a:Act} {w:World} (h0:I s a w):(Code.loop c).wpIn F m P R a w:=by
 intro b k cs hro hb hr
 have key:∀n s a w,μ s=n->I s a w->
   ∃e a' w',R e a' w'/\ArrivesIn (Machine.fenced P F) P (lone (b.atR a (.code c::.inLoop c::k)) cs w) b k cs e a' w':=by
  intro n
  induction n using Nat.strongRecOn with
  |_ n ih=>
   intro s a w hn hI
   obtain⟨e,a₁,w₁,hq,harr⟩:=round s a w hI b (.inLoop c::k) cs hro hb hr
   cases e with
   |normal=>
    obtain⟨s',hI₁,hlt⟩:=hq
    obtain⟨e₂,a₂,w₂,hq₂,harr₂⟩:=ih (μ s') (hn▸hlt) s' a₁ w₁ rfl hI₁
    exact⟨e₂,a₂,w₂,hq₂,.of_steps (StepsIn.trans harr (.one (fenced_calm hb hr rfl) stepR_inLoop)) harr₂⟩
   |exit id=>exact⟨_,a₁,w₁,hq,.pass (x:=.inLoop c) rfl (fun _ _=>.inl (by simp)) harr⟩
   |goto l=>exact⟨_,a₁,w₁,hq,.pass (x:=.inLoop c) rfl (fun _ _=>.inl (by simp)) harr⟩
   |ret=>exact⟨_,a₁,w₁,hq,.pass (x:=.inLoop c) rfl (fun _ _=>.inl (by simp)) harr⟩
   |panic ch=>exact⟨_,a₁,w₁,hq,.pass (x:=.inLoop c) rfl (fun _ _=>.inl (by simp)) harr⟩
   |outgrown=>exact⟨_,a₁,w₁,hq,.pass (x:=.inLoop c) rfl (fun _ _=>.inl (by simp)) harr⟩
 obtain⟨e,a',w',hq,harr⟩:=key _ s a w rfl h0
 exact⟨e,a',w',hq,.of_steps (.one (fenced_calm hb hr rfl) stepR_loop) harr⟩
theorem aA.loop {α:Type} (S:α->aL) (I:α->Prop) (μ:α->Nat) (i:α) (hs:s=S i) (h0:I i)
  (round:∀i,I i->aA P c nt x (S i) fun e s'=>match e with
   |.normal=>∃j,s'=S j/\I j/\μ j<μ i
   |e=>Q e s'):aA P c nt (.loop x) s Q:=by
 intro a w hr
 refine CV (fun i a w=>I i/\Rel c nt (fun k=>k<(S i).next) (S i).dw (S i).store a w) μ (s:=i) ?_ ⟨h0,by rw[<-hs];exact hr⟩
 rintro i a w ⟨hi,hr⟩
 refine wpIn_mono (round i hi a w hr) ?_
 rintro e a' w' ⟨ae,s',rfl,h2,h3⟩
 cases ae with
 |normal=>
  obtain⟨j,rfl,hj,hlt⟩:=h3
  exact⟨j,⟨hj,h2⟩,hlt⟩
 |exit i=>exact⟨.exit i,s',rfl,h2,h3⟩
 |ret=>exact⟨.ret,s',rfl,h2,h3⟩
variable {T:Types} (hT:eW P T) {Γ:bG} (hΓ:cm P Γ) (hm:P.follows .mixedOrders=true)
include hT hΓ hm in
theorem aA.region {orc:List (Nat×Bool)} {id:Nat} {ops:Array Oper} {d:Bool} (hd:cE nt (.region id ops d)=true) {s':aL} {need:List Prop} (hr:tV T Γ orc ops d s=some (s',need)) (hn:aF need) (h:Q .normal s'):
  aA P c nt (.region id ops d) s Q:=
 fun _ _ hrel=>acW hT hΓ hm hd hr hn hrel fun _ _ h'=>⟨.normal,s',rfl,h',h⟩
include hT hΓ hm in
theorem aA.run:∀(n:Nat) {x:Code} {s:aL},cE nt x=true->∀{e:au} {s':aL} {need:List Prop},gP T Γ n x s=some (e,s',need)->aF need->
  aA P c nt x s fun e' t=>e'=e/\t=s'
 |0,x,s,_,e,s',need,h,_=>by simp[gP]at h
 |n+1,.skip,s,_,e,s',need,h,hn=>by
  simp only[gP,aB,Prod.mk.injEq]at h
  obtain⟨rfl,rfl,rfl⟩:=h
  exact .skip ⟨rfl,rfl⟩
 |n+1,.label l,s,_,e,s',need,h,hn=>by
  simp only[gP,aB,Prod.mk.injEq]at h
  obtain⟨rfl,rfl,rfl⟩:=h
  exact .label ⟨rfl,rfl⟩
 |n+1,.exit i,s,_,e,s',need,h,hn=>by
  simp only[gP,aB,Prod.mk.injEq]at h
  obtain⟨rfl,rfl,rfl⟩:=h
  exact .exit ⟨rfl,rfl⟩
 |n+1,.ret,s,_,e,s',need,h,hn=>by
  simp only[gP,aB,Prod.mk.injEq]at h
  obtain⟨rfl,rfl,rfl⟩:=h
  exact .ret ⟨rfl,rfl⟩
 |n+1,.region i ops d,s,hd,e,s',need,h,hn=>by
  simp only[gP]at h
  cases hr:tV T Γ [] ops d s with
  |none=>rw[hr]at h;simp at h
  |some q=>
   obtain⟨s1,p⟩:=q
   rw[hr]at h
   simp only[aB,Prod.mk.injEq]at h
   obtain⟨rfl,rfl,rfl⟩:=h
   exact aA.region hT hΓ hm hd hr hn ⟨rfl,rfl⟩
 |n+1,.seq x y,s,hd,e,s',need,h,hn=>by
  simp only[cE,Bool.and_eq_true]at hd
  simp only[gP]at h
  cases hx:gP T Γ n x s with
  |none=>rw[hx]at h;simp at h
  |some q=>
   obtain⟨e1,s1,p⟩:=q
   rw[hx]at h
   cases e1 with
   |normal=>
    simp only at h
    cases hy:gP T Γ n y s1 with
    |none=>rw[hy]at h;simp at h
    |some q2=>
     obtain⟨e2,s2,p2⟩:=q2
     rw[hy]at h
     simp only[aB,Prod.mk.injEq]at h
     obtain⟨rfl,rfl,rfl⟩:=h
     refine .seq ((aA.run n hd.1 hx (iy.1 hn).1).mono ?_)
     rintro e' t ⟨rfl,rfl⟩
     exact aA.run n hd.2 hy (iy.1 hn).2
   |exit i=>
    simp only[aB,Prod.mk.injEq]at h
    obtain⟨rfl,rfl,rfl⟩:=h
    refine .seq ((aA.run n hd.1 hx hn).mono ?_)
    rintro e' t ⟨rfl,rfl⟩
    exact⟨rfl,rfl⟩
   |ret=>
    simp only[aB,Prod.mk.injEq]at h
    obtain⟨rfl,rfl,rfl⟩:=h
    refine .seq ((aA.run n hd.1 hx hn).mono ?_)
    rintro e' t ⟨rfl,rfl⟩
    exact⟨rfl,rfl⟩
 |n+1,.cond b x y,s,hd,e,s',need,h,hn=>by
  simp only[cE,Bool.and_eq_true]at hd
  simp only[gP]at h
  cases hb:s.iX b with
  |none=>rw[hb]at h;simp at h
  |some v=>
   rw[hb]at h
   cases v<;>simp only[reduceCtorEq]at h
   case bool t=>
    cases t with
    |true=>exact .cond hb (fun _=>aA.run n hd.1 h hn) (fun h=>by simp at h)
    |false=>exact .cond hb (fun h=>by simp at h) (fun _=>aA.run n hd.2 h hn)
 |n+1,.block i x,s,hd,e,s',need,h,hn=>by
  simp only[cE]at hd
  simp only[gP]at h
  cases hx:gP T Γ n x s with
  |none=>rw[hx]at h;simp at h
  |some q=>
   obtain⟨e1,s1,p⟩:=q
   rw[hx]at h
   cases e1 with
   |normal=>
    simp only[aB,Prod.mk.injEq]at h
    obtain⟨rfl,rfl,rfl⟩:=h
    refine .block ((aA.run n hd hx hn).mono ?_)
    rintro e' t ⟨rfl,rfl⟩
    exact⟨rfl,rfl⟩
   |exit j=>
    simp only at h
    split at h
    ·rename_i hj
     have hj':j=i:=by simpa using hj
     simp only[aB,Prod.mk.injEq]at h
     obtain⟨rfl,rfl,rfl⟩:=h
     refine .block ((aA.run n hd hx hn).mono ?_)
     rintro e' t ⟨rfl,rfl⟩
     simp[hj']
    ·rename_i hj
     have hj':¬j=i:=by simpa using hj
     simp only[aB,Prod.mk.injEq]at h
     obtain⟨rfl,rfl,rfl⟩:=h
     refine .block ((aA.run n hd hx hn).mono ?_)
     rintro e' t ⟨rfl,rfl⟩
     simp[hj']
   |ret=>
    simp only[aB,Prod.mk.injEq]at h
    obtain⟨rfl,rfl,rfl⟩:=h
    refine .block ((aA.run n hd hx hn).mono ?_)
    rintro e' t ⟨rfl,rfl⟩
    exact⟨rfl,rfl⟩
 |n+1,.loop x,s,hd,e,s',need,h,hn=>by
  have key:∀(m:Nat) (s:aL) (e:au) (s':aL) (need:List Prop),m<=n+1->gP T Γ m (.loop x) s=some (e,s',need)->aF need->
    ∀(a:Act) (w:World) (fr:Frame) (k:List Item) (cs:List Frame),fr.roundOf=(iN c.ro).round->(iN c.ro).fn fr.fn->(iN c.ro).room (cs.length+1+3)->Rel c nt (fun k=>k<s.next) s.dw s.store a w->
     ∃e' a' w',(∃ae t,e'=au.qQ ae/\Rel c nt (fun k=>k<t.next) t.dw t.store a' w'/\ae=e/\t=s')/\ArrivesIn (Machine.fenced P (iN c.ro)) P (lone (fr.atR a (.code x::.inLoop x::k)) cs w) fr k cs e' a' w':=by
   intro m
   induction m with
   |zero=>intro s e s' need _ h;simp[gP]at h
   |succ m ihm=>
    intro s e s' need hmn h hn a w fr k cs h01 h02 h03 hrel
    simp only[gP]at h
    cases hx:gP T Γ m x s with
    |none=>rw[hx]at h;simp at h
    |some q=>
     obtain⟨e1,s1,p⟩:=q
     rw[hx]at h
     have hlen:m<=n:=aa
     have hrunx:aF p->aA P c nt x s fun e' t=>e'=e1/\t=s1:=fun hp=>aA.run m (by simpa [cE]using hd) hx hp
     cases e1 with
     |normal=>
      simp only at h
      cases hy:gP T Γ m (.loop x) s1 with
      |none=>rw[hy]at h;simp at h
      |some q2=>
       obtain⟨e2,s2,p2⟩:=q2
       rw[hy]at h
       simp only[aB,Prod.mk.injEq]at h
       obtain⟨rfl,rfl,rfl⟩:=h
       obtain⟨e',a1,w1,⟨ae,t,rfl,g1,rfl,rfl⟩,harr⟩:=hrunx (iy.1 hn).1 a w hrel fr (.inLoop x::k) cs h01 h02 h03
       obtain⟨e'',a2,w2,g2,harr2⟩:=ihm t e2 s2 p2 aa hy (iy.1 hn).2 a1 w1 fr k cs h01 h02 h03 g1
       exact⟨e'',a2,w2,g2,.of_steps (StepsIn.trans harr (.one (fenced_calm h02 h03 rfl) stepR_inLoop)) harr2⟩
     |exit i=>
      simp only[aB,Prod.mk.injEq]at h
      obtain⟨rfl,rfl,rfl⟩:=h
      obtain⟨e',a1,w1,⟨ae,t,rfl,g1,rfl,rfl⟩,harr⟩:=hrunx hn a w hrel fr (.inLoop x::k) cs h01 h02 h03
      exact⟨_,a1,w1,⟨_,t,rfl,g1,rfl,rfl⟩,.pass (x:=.inLoop x) rfl (fun _ _=>.inl (by simp[au.qQ])) harr⟩
     |ret=>
      simp only[aB,Prod.mk.injEq]at h
      obtain⟨rfl,rfl,rfl⟩:=h
      obtain⟨e',a1,w1,⟨ae,t,rfl,g1,rfl,rfl⟩,harr⟩:=hrunx hn a w hrel fr (.inLoop x::k) cs h01 h02 h03
      exact⟨_,a1,w1,⟨_,t,rfl,g1,rfl,rfl⟩,.pass (x:=.inLoop x) rfl (fun _ _=>.inl (by simp[au.qQ])) harr⟩
  intro a w hrel fr k cs h01 h02 h03
  obtain⟨e',a',w',g1,harr⟩:=key (n+1) s e s' need aX h hn a w fr k cs h01 h02 h03 hrel
  exact⟨e',a',w',g1,.of_steps (.one (fenced_calm h02 h03 rfl) stepR_loop) harr⟩
 |n+1,.scope x,s,_,e,s',need,h,_=>by simp[gP]at h
 |n+1,.goto l,s,_,e,s',need,h,_=>by simp[gP]at h
 |n+1,.refuse l,s,_,e,s',need,h,_=>by simp[gP]at h
 |n+1,.rangeFunc _ _ _ _,s,_,e,s',need,h,_=>by simp[gP]at h
include hT hΓ hm in
theorem aA.step (n:Nat) (hd:cE nt x=true) {e:au} {s':aL} {need:List Prop} (hc:gP T Γ n x s=some (e,s',need)) (hn:aF need) (h:Q e s'):aA P c nt x s Q:=
 (aA.run hT hΓ hm n hd hc hn).mono fun _ _ ⟨h1,h2⟩=>by subst h1;subst h2;exact h
end rules
end Go.Am
namespace Go.Am
open AV
def iQ (ρ:Nat->Option Nat) (u v:AV):Prop:=v.isAgg=u.isAgg/\∀M w β cs,aQ M w β [u] cs->aQ M w (fun k=>(ρ k).bind β) [v] cs
structure gQ (ρ:Nat->Option Nat) (o1 o2:aC):Prop where
 row:o2.row=o1.row
 wr:o2.wr=o1.wr
 es:o2.es=o1.es
 len:o2.len=o1.len
 f:∀i,i<o1.len->iQ ρ (o1.f i) (o2.f i)
def uO (o:aC):Prop:=o.row=true/\o.len=0/\0<o.es
theorem RD {ρ:Nat->Option Nat}:(fun k=>(ρ k).bind bz)=bz:=by
 funext k
 cases ρ k<;>rfl
section weak
variable {c c':Ctx} {st st2:aG} {D D2:Nat->Prop} {β β2:aZ} {w:World} {ρ:Nat->Option Nat}
theorem A5 (hMf:c'.Mf=c.Mf) (hst:∀k2 o2,look k2 st2=some o2->(∃k1 o1,ρ k2=some k1/\look k1 st=some o1/\gQ ρ o1 o2)\/β2 k2=none) (hβ:∀k2 k1,ρ k2=some k1->β2 k2=β k1):
  ∀b,aP c' st2 β2 b->aP c st β b:=by
 rintro b (hb|⟨k2,o2,N,h1,h2,h3⟩)
 ·exact .inl (hMf▸hb)
 ·rcases hst k2 o2 h1 with⟨k1,o1,g1,g2,g3⟩|g
  ·exact .inr ⟨k1,o1,N,g2,by rw[<-g3.wr];exact h2,by rw[<-hβ k2 k1 g1];exact h3⟩
  ·rw[g]at h3;simp at h3
theorem aQ.weak {u v:AV} {cs:List Value} {M M':Nat->Prop} (hM:∀b,M' b->M b) (hβ:∀k2 k1,ρ k2=some k1->β2 k2=β k1) (hle:iQ ρ u v) (h:aQ M w β [u] cs):aQ M' w β2 [v] cs:=by
 refine(hle.2 M w β cs h).mono (fun b o h1 h2=>⟨h2,fun h3=>h1 (hM b h3)⟩) β2 fun k x hk=>?_
 cases hr:ρ k with
 |none=>rw[hr]at hk;simp at hk
 |some k1=>
  rw[hr]at hk
  rw[hβ k k1 hr];exact hk
theorem bu.weak {u v:AV} {x:Value} {M M':Nat->Prop} (hM:∀b,M' b->M b) (hβ:∀k2 k1,ρ k2=some k1->β2 k2=β k1) (hle:iQ ρ u v) (h:bu M w β u x):bu M' w β2 v x:=by
 obtain⟨cs,h1,h2⟩:=h
 exact⟨cs,h1.weak hM hβ hle,by rw[hle.1];exact h2⟩
theorem bk.weak (h:bk c st D β w) (hMf:c'.Mf=c.Mf) (hw0:c'.w0=c.w0) (hMw:c'.Mw=c.Mw) (hinj:∀a b k,ρ a=some k->ρ b=some k->a=b)
  (hst:∀k2 o2,look k2 st2=some o2->(∃k1 o1,ρ k2=some k1/\look k1 st=some o1/\gQ ρ o1 o2)\/(β2 k2=none/\uO o2/\D2 k2)) (hβ:∀k2 k1,ρ k2=some k1->β2 k2=β k1) (hd2:∀k2 k1,ρ k2=some k1->D2 k2)
  (hdom:∀k2 x,β2 k2=some x->D2 k2) (hlt:∀k2 b (N:Nat×Nat),β2 k2=some (b,N)->b<w.heap.size) (hkeep:∀k x,c'.k0 k=some x->β2 k=some x):bk c' st2 D2 β2 w:=by
 have hM:=A5 hMf (fun k2 o2 h=>(hst k2 o2 h).imp id (·.1)) hβ
 have hst':∀k2 o2 x,look k2 st2=some o2->β2 k2=some x->∃k1 o1,ρ k2=some k1/\look k1 st=some o1/\gQ ρ o1 o2:=fun k2 o2 x h hb=>(hst k2 o2 h).resolve_right fun g=>by rw[g.1]at hb;simp at hb
 refine {obj:=fun k2 o2 hk x hx=>?_,eH:=fun k2 o2 hk hb=>?_,inj:=fun k k' o o' b N N' h1 h2 hw hb hb'=>?_,dom:=hdom,keep:=hkeep,lt:=hlt,os:=(by rw[hw0];exact h.os),tape:=(by rw[hw0];exact h.tape),output:=(by rw[hw0];exact h.output),size:=(by rw[hw0];exact h.size),block:=fun b=>by rw[hw0,hMw];exact h.block b,iH:=fun b=>by rw[hw0,hMf,hMw];exact h.iH b,new:=fun k o b N hk hw hb=>?_}
 ·obtain⟨k1,o1,g1,g2,g3⟩:=hst' k2 o2 x hk hx
  obtain⟨b,N,cs,ty,a1,a2,a3,a4,⟨a5,a5'⟩,a6,a7,a8⟩:=h.obj k1 o1 g2 x (by rw[<-hβ k2 k1 g1];exact hx)
  have e2:β2 k2=some (b,N):=by rw[hβ k2 k1 g1];exact a1
  refine⟨b,N,cs,ty,e2,a2,by rw[g3.es];exact a3,by rw[g3.es];exact a4,⟨by rw[g3.len];exact a5,by rw[g3.len];exact a5'⟩,
   fun hw=>.inr ⟨k2,o2,N,hk,hw,e2⟩,fun hw hm=>a7 (by rw[<-g3.wr];exact hw) (hM b hm),fun i hi=>?_⟩
  rw[g3.len]at hi
  obtain⟨ps,p1,p2,p3⟩:=a8 i hi
  refine⟨ps,by rw[g3.es];exact p1,?_,by rw[g3.es];exact p3⟩
  rw[g3.row]
  cases hr:o1.row with
  |true=>
   rw[hr]at p2
   simp only[if_true]at p2 ⊢
   have:=(g3.f i hi).2 _ _ _ _ p2
   rw[RD]at this
   exact this.mono (fun b o h1 h2=>⟨h2,fun h3=>h1 (hM b h3)⟩) _ fun _ _ h=>h
  |false=>
   rw[hr]at p2
   simp only[Bool.false_eq_true,if_false]at p2 ⊢
   exact p2.weak hM hβ (g3.f i hi)
 ·rcases hst k2 o2 hk with⟨k1,o1,g1,g2,g3⟩|⟨g1,g2,g3⟩
  ·have:=(h.eH k1 o1 g2 (by rw[<-hβ k2 k1 g1];exact hb)).1
   exact⟨by rw[g3.row,g3.len,g3.es];exact this,hd2 k2 k1 g1⟩
  ·exact⟨g2,g3⟩
 ·obtain⟨k1,o1,g1,g2,g3⟩:=hst' k o _ h1 hb
  obtain⟨k1',o1',g1',g2',g3'⟩:=hst' k' o' _ h2 hb'
  rw[hβ k k1 g1]at hb
  rw[hβ k' k1' g1']at hb'
  have:=h.inj k1 k1' o1 o1' b N N' g2 g2' (by rw[<-g3.wr];exact hw) hb hb'
  subst this
  exact hinj k k' k1 g1 g1'
 ·obtain⟨k1,o1,g1,g2,g3⟩:=hst' k o _ hk hb
  rw[hw0,hMw]
  exact h.new k1 o1 b N g2 (by rw[<-g3.wr];exact hw) (by rw[<-hβ k k1 g1];exact hb)
structure Le (c:Ctx) (ρ:Nat->Option Nat) (s s2:aL):Prop where
 inj:∀a b k,ρ a=some k->ρ b=some k->a=b
 dw:∀t v,look t s2.dw=some v->∃u,look t s.dw=some u/\u.isTuple=false/\iQ ρ u v
 store:∀k2 o2,look k2 s2.store=some o2->(∃k1 o1,ρ k2=some k1/\look k1 s.store=some o1/\gQ ρ o1 o2)\/(ρ k2=none/\uO o2/\k2<s2.next)
 dom:∀k2 k1,ρ k2=some k1->k2<s2.next
 keep:∀k x,c.k0 k=some x->ρ k=some k
theorem Le.FT {s s2:aL} {tmps:Array Value} (hle:Le c ρ s s2) (a3:bk c s.store (fun k=>k<s.next) β w) (a4:pO (aP c s.store β) w β s.dw tmps):
  bk c s2.store (fun k=>k<s2.next) (fun k=>(ρ k).bind β) w/\pO (aP c s2.store fun k=>(ρ k).bind β) w (fun k=>(ρ k).bind β) s2.dw tmps:=by
 have hβ:∀k2 k1,ρ k2=some k1->(fun k=>(ρ k).bind β) k2=β k1:=fun k2 k1 h=>by simp[h]
 have hst:∀k2 o2,look k2 s2.store=some o2->(∃k1 o1,ρ k2=some k1/\look k1 s.store=some o1/\gQ ρ o1 o2)\/((ρ k2).bind β=none/\uO o2/\k2<s2.next):=fun k2 o2 h=>(hle.store k2 o2 h).imp id fun⟨g1,g2⟩=>⟨by rw[g1];rfl,g2⟩
 refine⟨a3.weak rfl rfl rfl hle.inj hst hβ hle.dom (fun k2 x hk=>?_) (fun k2 b N hk=>?_) (fun k x hk=>?_),fun t v ht=>?_⟩
 ·cases hr:ρ k2 with
  |none=>simp[hr]at hk
  |some k1=>exact hle.dom k2 k1 hr
 ·cases hr:ρ k2 with
  |none=>simp[hr]at hk
  |some k1=>simp[hr]at hk;exact a3.lt k1 b N hk
 ·simp only[hle.keep k x hk,Option.bind_some];exact a3.keep k x hk
 ·obtain⟨u,hu,htu,huv⟩:=hle.dw t v ht
  obtain⟨x,hx,hv⟩:=a4 t u hu
  exact⟨x,hx,((hv.one htu).weak (A5 rfl (fun k2 o2 h=>(hst k2 o2 h).imp id (·.1)) hβ) hβ huv).bT⟩
theorem Le.rel {nt:Nat} {s s2:aL} (hle:Le c ρ s s2) {a:Act} (h:Rel c nt (fun k=>k<s.next) s.dw s.store a w):Rel c nt (fun k=>k<s2.next) s2.dw s2.store a w:=
 let ⟨a1,a2,_,a3,a4⟩:=h
 ⟨a1,a2,_,hle.FT a3 a4⟩
theorem aA.weak {P:Program} {nt:Nat} {x:Code} {s s2:aL} {Q:au->aL->Prop} (hle:Le c ρ s s2) (h:aA P c nt x s2 Q):aA P c nt x s Q:=
 fun a w hr=>h a w (hle.rel hr)
theorem aA.QZ {P:Program} {nt:Nat} {x:Code} {s:aL} {Q:au->aL->Prop} {α:Type} (S:α->aL) (I:α->Prop) (μ:α->Nat) (i:α) (hs:∃ρ,Le c ρ s (S i)) (h0:I i)
  (round:∀i,I i->aA P c nt x (S i) fun e s'=>match e with
   |.normal=>∃j,(∃ρ,Le c ρ s' (S j))/\I j/\μ j<μ i
   |e=>Q e s'):aA P c nt (.loop x) s Q:=by
 intro a w hr
 obtain⟨ρ,hle⟩:=hs
 refine CV (fun i a w=>I i/\Rel c nt (fun k=>k<(S i).next) (S i).dw (S i).store a w) μ (s:=i) ?_ ⟨h0,hle.rel hr⟩
 rintro i a w ⟨hi,hr⟩
 refine wpIn_mono (round i hi a w hr) ?_
 rintro e a' w' ⟨ae,s',rfl,h2,h3⟩
 cases ae with
 |normal=>
  obtain⟨j,⟨ρ,hle⟩,hj,hlt⟩:=h3
  exact⟨j,⟨hj,hle.rel h2⟩,hlt⟩
 |exit i=>exact⟨.exit i,s',rfl,h2,h3⟩
 |ret=>exact⟨.ret,s',rfl,h2,h3⟩
end weak
theorem cQ.bz {M:Nat->Prop} {w:World} {β:aZ}:∀{l:List AV} {xs:List Value},cQ M w β l xs->bV l=[]->cQ M w Am.bz l xs
 |[],[],_,_=>trivial
 |a::l,x::xs,h,hk=>by
  simp only[bV,List.append_eq_nil_iff]at hk
  obtain⟨⟨cs,h1,h2⟩,h3⟩:=h
  exact⟨⟨cs,zZ h1 (by simp[bV,hk.1]),h2⟩,cQ.bz h3 hk.2⟩
 |[],_::_,h,_=>h.elim
 |_::_,[],h,_=>h.elim
theorem EP {M:Nat->Prop} {w:World} {β:aZ}:∀{l:List AV} {xs:List Value} {i:Nat} {pre post:Array Value},cQ M w β l xs->pre.size=i->pO M w β (bf i l) (pre++xs.toArray++post)
 |[],[],i,pre,post,_,_=>fun t v h=>by simp[bf,look]at h
 |a::l,x::xs,i,pre,post,h,hp=>by
  intro t v ht
  simp only[bf,look]at ht
  split at ht
  ·rename_i hit
   have hit':i=t:=by simpa using hit
   simp only[aB]at ht
   subst ht;subst hit'
   exact⟨x,by rw[Array.append_assoc,Array.getElem?_append_right aa,<-hp,Nat.sub_self,Array.getElem?_append_left (by simp)];simp,h.1.bT⟩
  ·have:=EP (pre:=pre.push x) (post:=post) h.2 (i:=i+1) (by simp[hp]) t v ht
   have e:pre.push x++xs.toArray++post=pre++(x::xs).toArray++post:=by
    apply Array.ext';simp
   rwa [e]at this
 |[],_::_,_,_,_,h,_=>h.elim
 |_::_,[],_,_,_,h,_=>h.elim
def bg (u v:AV):Prop:=v.isAgg=u.isAgg/\∀M w cs,aQ M w bz [u] cs->aQ M w bz [v] cs
theorem bg.refl (u:AV):bg u u:=⟨rfl,fun _ _ _ h=>h⟩
def ir:List AV->List AV->Prop
 |[],[]=>True
 |u::us,v::vs=>bg u v/\ir us vs
 |_,_=>False
theorem ir.refl:∀l:List AV,ir l l
 |[]=>trivial
 |u::l=>⟨.refl u,ir.refl l⟩
def iW (us:List AV) (res:AV):Prop:=
 match us,res with
 |[u],v=>bg u v
 |us,.tuple vs=>ir us vs
 |_,_=>False
def Ends (T:Types) (fn:Func) (res:AV) (s:aL):Prop:=
 ∃vs q us,l5 T s fn.results.toList=some (vs,q)/\aF q/\fW (lW (pick s.store (bV vs))) vs=some us/\iW us res
section funcs
variable {P:Program} {T:Types} (hT:eW P T) {c:Ctx} {w:World}
include hT in
theorem FJ {D:Nat->Prop} {β:aZ} {s:aL} {a:Act} (hw:bk c s.store D β w) (hs:pO (aP c s.store β) w β s.dw a.tmps) {g:ResultVar->Sem Value}
  (hg1:∀t,g (.tmp t)=pure (a.tmps.getD t undef)) (hg2:∀r t,g (.cell r t)=(do let x <-asAddr (a.tmps.getD r undef);loadVar t x)):
  ∀{l:List ResultVar} {vs:List AV} {q:List Prop},l5 T s l=some (vs,q)->aF q->∃xs,(l.mapM g).run P w=.ok xs w/\cQ (aP c s.store β) w β vs xs/\xs.length=l.length
 |[],vs,q,h,hq=>by
  simp only[l5,aB,Prod.mk.injEq]at h
  obtain⟨rfl,rfl⟩:=h
  exact⟨[],by simp,trivial,rfl⟩
 |x::l,vs,q,h,hq=>by
  simp only[l5]at h
  cases hx:yV T s x with
  |none=>rw[hx]at h;simp at h
  |some p=>
   obtain⟨v,p1⟩:=p
   cases hl:l5 T s l with
   |none=>rw[hx,hl]at h;simp at h
   |some p2=>
    obtain⟨vs',q'⟩:=p2
    rw[hx,hl]at h
    simp only[aB,Prod.mk.injEq]at h
    obtain⟨rfl,rfl⟩:=h
    obtain⟨xs,hxs,hv,hlen⟩:=FJ hw hs hg1 hg2 hl (iy.1 hq).2
    have hone:∃y,(g x).run P w=.ok y w/\bu (aP c s.store β) w β v y:=by
     cases x with
     |tmp t=>
      simp only[yV]at hx
      cases ht:look t s.dw with
      |none=>rw[ht]at hx;simp at hx
      |some u=>
       rw[ht]at hx
       simp only at hx
       split at hx
       ·simp at hx
       ·rename_i htu
        simp only[aB,Prod.mk.injEq]at hx
        obtain⟨rfl,_⟩:=hx
        obtain⟨y,hy,hvy⟩:=hs t u ht
        refine⟨y,?_,hvy.one (by simpa using htu)⟩
        rw[hg1]
        simp[Array.getD_eq_getD_getElem?,hy]
     |cell r t=>
      simp only[yV]at hx
      cases ht:look t T with
      |none=>rw[ht]at hx;simp at hx
      |some ti=>
       cases hr:look r s.dw with
       |none=>rw[ht,hr]at hx;simp at hx
       |some pv=>
        rw[ht,hr]at hx
        simp only at hx
        cases hld:rH s.store ti pv with
        |none=>rw[hld]at hx;simp at hx
        |some ld=>
         rw[hld]at hx
         simp only[aB,Prod.mk.injEq]at hx
         obtain⟨rfl,rfl⟩:=hx
         obtain⟨y,hy,hvy⟩:=hs r pv hr
         obtain⟨_,z,hz,hvz⟩:=Iu hT hw (fun _ _ h=>h) ht hvy hld (iy.1 hq).1
         refine⟨z,?_,hvz⟩
         rw[hg2]
         simp only[Array.getD_eq_getD_getElem?,hy,Option.getD_some]
         cases y with
         |pointer ad=>
          cases ad with
          |some ad=>simpa [Instr.loadAt,Instr.sureAddr,asAddr]using hz
          |none=>simp[Instr.loadAt,Instr.sureAddr]at hz
         |_=>simp[Instr.loadAt,Instr.sureAddr]at hz
    obtain⟨y,hy,hvy⟩:=hone
    exact⟨y::xs,by simp[List.mapM_cons,hy,hxs],⟨hvy,hv⟩,by simp[hlen]⟩
theorem BF {M:Nat->Prop}:∀{us vs:List AV} {xs:List Value},ir us vs->cQ M w bz us xs->cQ M w bz vs xs
 |[],[],[],_,_=>trivial
 |u::us,v::vs,x::xs,h,hv=>by
  obtain⟨⟨cs,h1,h2⟩,h3⟩:=hv
  exact⟨⟨cs,h.1.2 _ _ _ h1,by rw[h.1.1];exact h2⟩,BF h.2 h3⟩
 |[],_::_,_,h,_=>h.elim
 |_::_,[],_,h,_=>h.elim
 |_::_,_::_,[],_,h=>h.elim
 |[],[],_::_,_,h=>h.elim
theorem AE {st pre:aG} {D:Nat->Prop} {β:aZ} (h:bk c st D β w) (hpre:∀k o,look k pre=some o->look k st=some o):∀{l m:List AV} {xs:List Value},fW pre l=some m->cQ (aP c st β) w β l xs->
  cQ (aP c st β) w bz m xs
 |[],m,[],hf,_=>by simp only[fW,aB]at hf;subst hf;trivial
 |a::l,m,x::xs,hf,hv=>by
  simp only[fW]at hf
  cases ha:dr pre a with
  |none=>rw[ha]at hf;simp at hf
  |some b=>
   cases hl:fW pre l with
   |none=>rw[ha,hl]at hf;simp at hf
   |some m'=>
    rw[ha,hl]at hf
    simp only[aB]at hf
    subst hf
    obtain⟨⟨cs,h1,h2⟩,h3⟩:=hv
    obtain⟨g1,g2⟩:=yh h hpre ha h1
    exact⟨⟨cs,g1,by rw[g2];exact h2⟩,AE h hpre hl h3⟩
 |[],_,_::_,_,h=>h.elim
 |_::_,_,[],_,h=>h.elim
theorem Rel.leave {fn:Func} {R:Ending->World->Prop} {nt:Nat} {D:Nat->Prop} {sl:List (Nat×AV)} {st:aG} {a:Act} {w:World} (hr:Rel c nt D sl st a w):
  ∃w',Rel c nt D sl st {a with defers:=[]} w'/\∀v,(results fn a.tmps).run P w'=.ok v w'->R (.returned v) w'->LeavesInM Fence.wide 3 P fn a.tmps R a.defers .returning w:=by
 obtain⟨⟨_,Ds,a1,hnd,hD⟩,a2,β,a3,a4⟩:=hr
 rw[a1]
 clear a1
 induction Ds generalizing w with
 |nil=>exact⟨w,⟨.nil,a2,β,a3,a4⟩,fun v h1 h2=>⟨v,h1,h2⟩⟩
 |cons B Ds ih=>
  obtain⟨b2,b3⟩:=hD B (by simp)
  have hh:∀(b:Nat) x ty fr,w.heap[b]?=some (Obj.cells x ty fr)->(w.putObj B (.deferred none)).heap[b]?=some (Obj.cells x ty fr):=fun b x ty fr h=>by
   rw[World.putObj_heap_other (fun e=>by subst e;rw[b2]at h;cases h)];exact h
  obtain⟨w',h1,h2⟩:=ih (w:=w.putObj B (.deferred none)) (List.nodup_cons.1 hnd).2 (fun E hE=>⟨(World.putObj_heap_other (fun e=>(List.nodup_cons.1 hnd).1 (by rw[<-e];exact hE))).trans (hD E (by simp[hE])).1,(hD E (by simp[hE])).2⟩)
   (a3.ze hh rfl rfl rfl (by simp) (fun b hb=>World.putObj_heap_other (fun e=>aa))) (fun t v ht=>by
    obtain⟨x,hx,hv⟩:=a4 t v ht
    exact⟨x,hx,hv.jc (fun b _ _ _ m g=>⟨hh _ _ _ _ g,m⟩) fun _ _ h=>h⟩)
  exact⟨w',h1,fun v g1 g2=>⟨by simp,.inl ⟨B,_,rfl,run_takeDeferred b2,h2 v g1 g2⟩⟩⟩
include hT in
theorem Pd {fn:Func} {res:AV} {nt:Nat} {s:aL} {a:Act} (he:Ends T fn res s) (hr:Rel c nt (fun k=>k<s.next) s.dw s.store a w):
  rm c a.defers w/\∃x β st',(results fn a.tmps).run P w=.ok x w/\bk c st' (fun k=>k<s.next) β w/\bK (aP c st' β) w bz res x/\
   ∀k o,look k s.store=some o->o.row=false->look k st'=some o:=by
 obtain⟨vs,q,us,h1,hq,h2,h3⟩:=he
 obtain⟨a1,a2,β,a3,a4⟩:=hr
 refine⟨a1,?_⟩
 obtain⟨xs,hxs,hv,hlen⟩:=FJ hT a3 a4 (g:=fun x=>match x with
  |ResultVar.tmp t=>pure (a.tmps.getD t undef)
  |ResultVar.cell r t=>do let y <-asAddr (a.tmps.getD r undef);loadVar t y) (fun _=>rfl) (fun _ _=>rfl) h1 hq
 obtain⟨f1,f2,f3⟩:=A0 (l:=pick s.store (bV vs)) a3 (fun k o hk=>by
  rw[ox]at hk
  split at hk
  ·exact hk
  ·simp at hk) zP
 have hvs:cQ (aP c (dm (gM (pick s.store (bV vs))) s.store) β) w β vs xs:=hv.mono f2.heap f2.keys
 have hus:=AE f1 f3 h2 hvs
 have hx:∃x,(results fn a.tmps).run P w=.ok x w/\bK (aP c (dm (gM (pick s.store (bV vs))) s.store) β) w bz res x:=by
  refine⟨if h:xs.length=1 then xs.toArray[0]'(by simpa using(show 0<xs.length by omega))else .tuple xs.toArray,?_,?_⟩
  ·have key:results fn a.tmps=(do
     let vs <-fn.results.mapM fun x=>match x with
      |ResultVar.tmp t=>pure (a.tmps.getD t undef)
      |ResultVar.cell r t=>do let y <-asAddr (a.tmps.getD r undef);loadVar t y
     pure (if h:vs.size=1 then vs[0]else Value.tuple vs)):=rfl
   rw[key,Sem.run_bind,Array.mapM_eq_mapM_toList,Sem.run_map,hxs]
   simp only[Result.andThen_ok,Sem.run_pure]
   congr 1
  ·unfold iW at h3
   split at h3
   ·rename_i u
    obtain⟨x,rfl,hx⟩:=hus.single
    simp only[List.length_cons,List.length_nil,Nat.zero_add,dite_true,List.getElem_toArray,List.getElem_cons_zero]
    obtain⟨cs,g1,g2⟩:=hx
    exact bu.bT ⟨cs,h3.2 _ _ _ g1,by rw[h3.1];exact g2⟩
   ·rename_i us' vs' hne
    have hl1:¬xs.length=1:=by
     intro hl1
     have:∀{us:List AV} {xs:List Value},cQ (aP c (dm (gM (pick s.store (bV vs))) s.store) β) w bz us xs->us.length=xs.length:=by
      intro us
      induction us with
      |nil=>intro xs h;cases xs with
       |nil=>rfl
       |cons _ _=>exact h.elim
      |cons u us ih=>intro xs h;cases xs with
       |nil=>exact h.elim
       |cons x xs=>simp[ih h.2]
     have hl2:=this hus
     rw[hl1]at hl2
     match us,hl2,hne with
     |[u],_,hne=>exact hne u rfl
    simp only[hl1,dite_false]
    exact⟨xs,rfl,BF h3 hus⟩
   ·exact h3.elim
 obtain⟨x,hx1,hx2⟩:=hx
 refine⟨x,β,_,hx1,f1,hx2,fun k o hk hrow=>?_⟩
 rw[lE]
 have:dj (gM (pick s.store (bV vs))) k=none:=by
  have gen:∀l:aG,(∀o',look k l=some o'->o'.row=false)->(l.map (·.1)).Nodup->dj (gM l) k=none:=by
   intro l
   induction l with
   |nil=>intros;rfl
   |cons p l ih=>
    obtain⟨j,oj⟩:=p
    intro h hn
    simp only[List.map_cons,List.nodup_cons]at hn
    by_cases hjk:j=k
    ·subst hjk
     have hrow':=h oj (by simp[look])
     simp only[gM,hrow',Bool.false_and,Bool.false_eq_true,if_false]
     have hnl:look j l=none:=by
      cases hl:look j l with
      |none=>rfl
      |some o'=>
       exfalso
       apply hn.1
       have:∀l:aG,look j l=some o'->j∈l.map (·.1):=by
        intro l
        induction l with
        |nil=>simp[look]
        |cons q l ih=>
         obtain⟨i,b⟩:=q
         simp only[look]
         split
         ·rename_i hh
          intro _
          have:i=j:=by simpa using hh
          simp[this]
         ·intro h2
          simp only[List.map_cons,List.mem_cons]
          exact .inr (ih h2)
       exact this l hl
     exact ih (fun o' ho'=>by rw[hnl]at ho';simp at ho') hn.2
    ·have ih':=ih (fun o' ho'=>h o' (by simp[look,hjk,ho'])) hn.2
     simp only[gM]
     split
     ·simp only[dj,ih']
      simp[hjk]
     ·exact ih'
  refine gen _ (fun o' ho'=>?_) zP
  rw[ox]at ho'
  split at ho'
  ·rw[hk]at ho';simp only[aB]at ho';subst ho';exact hrow
  ·simp at ho'
 rw[this];exact hk
structure kM (P:Program) (f:FuncId) (fn:Func) (x:Code):Prop where
 get:P.funcs[f]?=some fn
 body:fn.body=some x
 name:(fn.name== "runtime.NumGoroutine")=false
 dst:cE fn.ntmps x=true
include hT in
theorem KX {f:FuncId} {fn:Func} {x:Code} (hf:kM P f fn x) {args:List AV} {r:en} (hk:bV args=[]) (hlen:args.length<=fn.ntmps) (hpost:r.post=[])
  (h:r.need->∀c:Ctx,c.k0=bz->c.ro=none->aA P c fn.ntmps x ⟨bf 0 args,[],0⟩ fun e s'=>(e=.normal\/e=.ret)/\Ends T fn r.res s') (K:Nat) (pre:aG):aY P f K args pre r:=by
 refine aY.frame (pre:=[]) ?_ (fun k o hk=>by simp[look]at hk)
 intro need
 refine⟨fun k o ho=>by rw[hpost]at ho;simp[look]at ho,fun c D D' β w vs hw0 hMw hrel hD hK hv=>.inl ⟨fn,hf.get,hf.name,by simp[hf.body],?_⟩⟩
 have hv0:=hv.bz hk
 have hM0:aP {c with k0:=bz,ro:=none} [] bz=aP c [] β:=by
  funext b
  simp[aP,look]
 have hlv:vs.length=args.length:=by
  have:∀{l:List AV} {xs:List Value},cQ (aP c [] β) w β l xs->xs.length=l.length:=by
   intro l
   induction l with
   |nil=>intro xs h;cases xs with
    |nil=>rfl
    |cons _ _=>exact h.elim
   |cons u us ih=>intro xs h;cases xs with
    |nil=>exact h.elim
    |cons x xs=>simp[ih h.2]
  exact this hv
 have hstart:Rel {c with k0:=bz,ro:=none} fn.ntmps (fun k=>k<0) (bf 0 args) [] {tmps:=vs.toArray++Array.replicate (fn.ntmps-vs.toArray.size) undef,defers:=[]} w:=by
  refine⟨.nil,by simp;omega,bz,?_,?_⟩
  ·exact {obj:=fun k o h=>by simp[look]at h,eH:=fun k o h=>by simp[look]at h,inj:=fun k k' o o' b N N' h=>by simp[look]at h,dom:=fun k x h=>by simp[bz]at h,keep:=fun k x h=>h,lt:=fun k b N h=>by simp[bz]at h,os:=hrel.os,tape:=hrel.tape,output:=hrel.output,size:=hrel.size,block:=hrel.block,iH:=hrel.iH,new:=fun k o b N h=>by simp[look]at h}
  ·rw[hM0]
   have:=EP (pre:=#[]) (post:=Array.replicate (fn.ntmps-vs.toArray.size) undef) hv0 rfl
   simpa using this
 refine callsIn_wide.1 (callsIn_of_wp_marks (F:=Fence.wide) (n:=3) hf.get hf.body trivial (wpIn_mono (h need {c with k0:=bz,ro:=none} rfl rfl _ w hstart) ?_))
 rintro e a' w9 ⟨ae,s',rfl,hr9,hex,hends⟩
 obtain⟨w',hr',hleave⟩:=Rel.leave (P:=P) (fn:=fn) (R:=fun e w'=>∃x,e=.returned x/\fS c [] D' β w (gT r.post) r.res x w') hr9
 obtain⟨hdef,x,β',st',hrun,hw',hvx,_⟩:=Pd hT hends hr'
 have hO:fS c [] D' β w (gT r.post) r.res x w':=by
  rw[hpost]
  refine⟨β,?_,?_,?_⟩
  ·exact {obj:=fun k o h=>by simp[look,gT,dm]at h,eH:=fun k o h=>by simp[look,gT,dm]at h,inj:=fun k k' o o' b N N' h=>by simp[look,gT,dm]at h,dom:=fun k x h=>hD _ (hrel.dom k x h),keep:=hrel.keep,lt:=fun k b N h=>Nat.lt_of_lt_of_le (hrel.lt k b N h) (by have:=hw'.size;rw[<-hw0];exact this),os:=hw'.os,tape:=hw'.tape,output:=hw'.output,size:=hw'.size,block:=hw'.block,iH:=hw'.iH,new:=fun k o b N h=>by simp[look,gT,dm]at h}
  ·refine⟨fun b o hb ho=>⟨?_,hb⟩,fun k x hk=>hk⟩
   have hlt:b<c.w0.heap.size:=by rw[hw0];exact mO ho
   have:=hw'.block b hlt (fun hm=>hb (hMw b hm))
   rw[this]
   show c.w0.heap[b]?=_
   rw[hw0];exact ho
  ·refine hvx.mono (fun b o hb ho=>⟨ho,fun hm=>hb ?_⟩) (fun k x hk=>by simp[bz]at hk)
   rcases hm with hm|⟨k,o,N,h1,_⟩
   ·exact .inl hm
   ·simp[look,gT,dm]at h1
 rcases hex with rfl|rfl
 ·exact hleave x hrun ⟨x,rfl,hO⟩
 ·exact hleave x hrun ⟨x,rfl,hO⟩
include hT in
theorem lO {f:FuncId} {fn:Func} {x:Code} (hf:kM P f fn x) {args:List AV} {r:en} (hk:bV args=[]) (hlen:args.length<=fn.ntmps) (hpost:r.post=[])
  (h:r.need->∀c:Ctx,c.k0=bz->aA P c fn.ntmps x ⟨bf 0 args,[],0⟩ fun e s'=>(e=.normal\/e=.ret)/\Ends T fn r.res s') (K:Nat) (pre:aG):aY P f K args pre r:=
 KX hT hf hk hlen hpost (fun need c h0 _=>h need c h0) K pre
end funcs
end Go.Am
namespace Go.Am
open AV
inductive af (α:Type) where
 |leaf (e:au) (a:α)
 |aj (l:List Prop) (t:af α)
 |fork (b:Bool) (t u:af α)
namespace af
variable {α β:Type}
def all (Q:au->α->Prop):af α->Prop
 |leaf e a=>Q e a
 |aj l t=>aF l/\t.all Q
 |fork b t u=>(b=true->t.all Q)/\(b=false->u.all Q)
def need (l:List Prop) (t:af α):af α:=match l with
 |[]=>t
 |l=>aj l t
def bind (f:au->α->Option (af β)):af α->Option (af β)
 |leaf e a=>f e a
 |aj l t=>match t.bind f with
  |some u=>some (aj l u)
  |none=>none
 |fork b t u=>match t.bind f,u.bind f with
  |some t',some u'=>some (fork b t' u')
  |_,_=>none
theorem FY {Q:au->α->Prop} {l:List Prop} {t:af α}:(need l t).all Q↔aF l/\t.all Q:=by
 cases l with
 |nil=>simp[need,aF]
 |cons p l=>exact Iff.rfl
theorem oW {f:au->α->Option (af β)} {Q:au->β->Prop}:∀{t:af α} {u:af β},t.bind f=some u->u.all Q->t.all fun e a=>∃v,f e a=some v/\v.all Q
 |leaf e a,u,h,hu=>⟨u,h,hu⟩
 |aj l t,u,h,hu=>by
  simp only[bind]at h
  cases ht:t.bind f with
  |none=>rw[ht]at h;simp at h
  |some v=>
   rw[ht]at h
   simp only[aB]at h
   subst h
   exact⟨hu.1,oW ht hu.2⟩
 |fork b t u,v,h,hv=>by
  simp only[bind]at h
  cases ht:t.bind f with
  |none=>rw[ht]at h;simp at h
  |some t'=>
   cases hu:u.bind f with
   |none=>rw[ht,hu]at h;simp at h
   |some u'=>
    rw[ht,hu]at h
    simp only[aB]at h
    subst h
    exact⟨fun hb=>oW ht (hv.1 hb),fun hb=>oW hu (hv.2 hb)⟩
theorem g9 {Q Q':au->α->Prop} (h:∀e a,Q e a->Q' e a):∀{t:af α},t.all Q->t.all Q'
 |leaf _ _,ht=>h _ _ ht
 |aj _ _,ht=>⟨ht.1,g9 h ht.2⟩
 |fork _ _ _,ht=>⟨fun hb=>g9 h (ht.1 hb),fun hb=>g9 h (ht.2 hb)⟩
end af
def Ag (forks:List Nat) (ops:List Oper):List Oper->Nat->List (Nat×Nat)
 |[],_=>[]
 |o::l,i=>match o.dst with
  |some d=>if(forks.contains d||(forks.contains (d+100000)||forks.contains (d+200000)))&&ops.any (fun p=>match p.guard with
    |some (g,_)=>g==i
    |none=>false)then(i,if forks.contains d then d else if forks.contains (d+100000)then d+100000 else d+200000)::Ag forks ops l (i+1)else Ag forks ops l (i+1)
  |none=>Ag forks ops l (i+1)
def pV (T:Types) (Γ:bG) (ops:Array Oper) (d:Bool) (s:aL):List (Nat×Nat)->List (Nat×Bool)->Option (af aL)
 |[],orc=>match tV T Γ orc ops d s with
  |some (s',need)=>some (.need need (.leaf .normal s'))
  |none=>none
 |(g,t)::gs,orc=>match Nat.blt t 100000 with
  |false=>match Nat.blt t 200000 with
   |true=>pV T Γ ops d s gs ((g,true)::orc)
   |false=>pV T Γ ops d s gs ((g,false)::orc)
  |true=>match mA T Γ orc ops.toList (ops.toList.take (g+1)) 0 s with
   |some (s',_,_)=>match look t s'.dw with
    |some (.bool b)=>match pV T Γ ops d s gs ((g,true)::orc),pV T Γ ops d s gs ((g,false)::orc)with
     |some x,some y=>some (.fork b x y)
     |_,_=>none
    |_=>pV T Γ ops d s gs orc
   |none=>none
def Ut (forks:List Nat):Operand->Nat
 |.tmp t=>if forks.contains t then 1 else if forks.contains (t+100000)then 2 else if forks.contains (t+200000)then 3 else 0
 |_=>0
def fL (T:Types) (Γ:bG) (forks:List Nat):Nat->Code->aL->Option (af aL)
 |0,_,_=>none
 |n+1,c,s=>match c with
  |.skip=>some (.leaf .normal s)
  |.label _=>some (.leaf .normal s)
  |.region _ ops d=>pV T Γ ops d s (Ag forks ops.toList ops.toList 0) []
  |.seq x y=>match fL T Γ forks n x s with
   |some t=>t.bind fun e s'=>match e with
    |.normal=>fL T Γ forks n y s'
    |.exit i=>some (.leaf (.exit i) s')
    |.ret=>some (.leaf .ret s')
   |none=>none
  |.cond b x y=>match s.iX b with
   |some (.bool t)=>match Ut forks b with
    |1=>match fL T Γ forks n x s,fL T Γ forks n y s with
     |some u,some v=>some (.fork t u v)
     |_,_=>none
    |2=>match fL T Γ forks n x s with
     |some u=>some (.aj [t=true] u)
     |none=>none
    |3=>match fL T Γ forks n y s with
     |some u=>some (.aj [t=false] u)
     |none=>none
    |_=>match t with
     |true=>fL T Γ forks n x s
     |false=>fL T Γ forks n y s
   |_=>none
  |.block id x=>match fL T Γ forks n x s with
   |some t=>t.bind fun e s'=>match e with
    |.normal=>some (.leaf .normal s')
    |.exit j=>match j==id with
     |true=>some (.leaf .normal s')
     |false=>some (.leaf (.exit j) s')
    |.ret=>some (.leaf .ret s')
   |none=>none
  |.loop x=>match fL T Γ forks n x s with
   |some t=>t.bind fun e s'=>match e with
    |.normal=>fL T Γ forks n (.loop x) s'
    |.exit j=>some (.leaf (.exit j) s')
    |.ret=>some (.leaf .ret s')
   |none=>none
  |.exit id=>some (.leaf (.exit id) s)
  |.ret=>some (.leaf .ret s)
  |_=>none
section rules
variable {P:Program} {c:Ctx} {nt:Nat} {Q:au->aL->Prop} {T:Types} (hT:eW P T) {Γ:bG} (hΓ:cm P Γ) (hm:P.follows .mixedOrders=true)
include hT hΓ hm in
theorem wu {id:Nat} {ops:Array Oper} {d:Bool} (hd:cE nt (.region id ops d)=true) {s:aL}:∀(gs:List (Nat×Nat)) (orc:List (Nat×Bool)) {t:af aL},pV T Γ ops d s gs orc=some t->t.all Q->
  aA P c nt (.region id ops d) s Q
 |[],orc,t,h,ht=>by
  simp only[pV]at h
  cases hr:tV T Γ orc ops d s with
  |none=>rw[hr]at h;simp at h
  |some q=>
   obtain⟨s',need⟩:=q
   rw[hr]at h
   simp only[aB]at h
   subst h
   obtain⟨h1,h2⟩:=af.FY.1 ht
   exact .region hT hΓ hm hd hr h1 h2
 |(g,k)::gs,orc,t,h,ht=>by
  simp only[pV]at h
  split at h
  ·split at h
   ·exact wu hd gs _ h ht
   ·exact wu hd gs _ h ht
  ·split at h
   ·split at h
    ·split at h
     ·rename_i x y hx hy
      simp only[aB]at h
      subst h
      exact(Bool.eq_false_or_eq_true _).elim (fun hb=>wu hd gs _ hx (ht.1 hb)) (fun hb=>wu hd gs _ hy (ht.2 hb))
     ·simp at h
    ·exact wu hd gs _ h ht
   ·simp at h
def uz (P:Program) (c:Ctx) (nt:Nat) (x:Code) (s:aL) (Q:au->aL->Prop):Prop:=
 ∀a w,Rel c nt (fun k=>k<s.next) s.dw s.store a w->∀(fr:Frame) (k:List Item) (cs:List Frame),fr.roundOf=(iN c.ro).round->(iN c.ro).fn fr.fn->(iN c.ro).room (cs.length+1+3)->∃e a' w',(∃ae t,e=au.qQ ae/\Rel c nt (fun k=>k<t.next) t.dw t.store a' w'/\Q ae t)/\
  ArrivesIn (Machine.fenced P (iN c.ro)) P (lone (fr.atR a (.code x::.inLoop x::k)) cs w) fr k cs e a' w'
theorem uz.loop {x:Code} {s:aL} (h:uz P c nt x s Q):aA P c nt (.loop x) s Q:=by
 intro a w hrel fr k cs h01 h02 h03
 obtain⟨e,a',w',g,harr⟩:=h a w hrel fr k cs h01 h02 h03
 exact⟨e,a',w',g,.of_steps (.one (fenced_calm h02 h03 rfl) stepR_loop) harr⟩
theorem uz.round {x:Code} {s:aL} (h:aA P c nt x s fun e s'=>match e with
  |.normal=>uz P c nt x s' Q
  |e=>Q e s'):uz P c nt x s Q:=by
 intro a w hrel fr k cs h01 h02 h03
 obtain⟨e,a1,w1,⟨ae,t,rfl,g1,g2⟩,harr⟩:=h a w hrel fr (.inLoop x::k) cs h01 h02 h03
 cases ae with
 |normal=>
  obtain⟨e2,a2,w2,hq2,harr2⟩:=g2 a1 w1 g1 fr k cs h01 h02 h03
  exact⟨e2,a2,w2,hq2,.of_steps (StepsIn.trans harr (.one (fenced_calm h02 h03 rfl) stepR_inLoop)) harr2⟩
 |exit i=>exact⟨_,a1,w1,⟨.exit i,t,rfl,g1,g2⟩,.pass (x:=.inLoop x) rfl (fun _ _=>.inl (by simp[au.qQ])) harr⟩
 |ret=>exact⟨_,a1,w1,⟨.ret,t,rfl,g1,g2⟩,.pass (x:=.inLoop x) rfl (fun _ _=>.inl (by simp[au.qQ])) harr⟩
include hT hΓ hm in
theorem nw {forks:List Nat}:∀(n:Nat) {x:Code} {s:aL} {Q:au->aL->Prop},cE nt x=true->∀{t:af aL},fL T Γ forks n x s=some t->t.all Q->aA P c nt x s Q
 |0,x,s,Q,_,t,h,_=>by simp[fL]at h
 |n+1,.skip,s,Q,_,t,h,ht=>by
  simp only[fL,aB]at h
  subst h;exact .skip ht
 |n+1,.label l,s,Q,_,t,h,ht=>by
  simp only[fL,aB]at h
  subst h;exact .label ht
 |n+1,.exit i,s,Q,_,t,h,ht=>by
  simp only[fL,aB]at h
  subst h;exact .exit ht
 |n+1,.ret,s,Q,_,t,h,ht=>by
  simp only[fL,aB]at h
  subst h;exact .ret ht
 |n+1,.region i ops d,s,Q,hd,t,h,ht=>by
  simp only[fL]at h
  exact wu hT hΓ hm hd _ _ h ht
 |n+1,.seq x y,s,Q,hd,t,h,ht=>by
  simp only[cE,Bool.and_eq_true]at hd
  simp only[fL]at h
  cases hx:fL T Γ forks n x s with
  |none=>rw[hx]at h;simp at h
  |some u=>
   rw[hx]at h
   refine .seq (nw n hd.1 hx (af.g9 ?_ (af.oW h ht)))
   rintro e s' ⟨v,h1,h2⟩
   cases e with
   |normal=>exact nw n hd.2 h1 h2
   |exit i=>simp only[aB]at h1;subst h1;exact h2
   |ret=>simp only[aB]at h1;subst h1;exact h2
 |n+1,.cond b x y,s,Q,hd,t,h,ht=>by
  simp only[cE,Bool.and_eq_true]at hd
  simp only[fL]at h
  split at h
  ·rename_i t' hb
   split at h
   ·split at h
    ·rename_i u v hu hv
     simp only[aB]at h
     subst h
     exact .cond hb (fun h'=>nw n hd.1 hu (ht.1 h')) (fun h'=>nw n hd.2 hv (ht.2 h'))
    ·simp at h
   ·split at h
    ·rename_i u hu
     simp only[aB]at h
     subst h
     have hb':t'=true:=ht.1
     exact .cond hb (fun _=>nw n hd.1 hu ht.2) (fun h'=>by rw[hb']at h';simp at h')
    ·simp at h
   ·split at h
    ·rename_i u hu
     simp only[aB]at h
     subst h
     have hb':t'=false:=ht.1
     exact .cond hb (fun h'=>by rw[hb']at h';simp at h') (fun _=>nw n hd.2 hu ht.2)
    ·simp at h
   ·split at h
    ·exact .cond hb (fun _=>nw n hd.1 h ht) (fun h'=>by simp at h')
    ·exact .cond hb (fun h'=>by simp at h') (fun _=>nw n hd.2 h ht)
  ·simp at h
 |n+1,.block id x,s,Q,hd,t,h,ht=>by
  simp only[cE]at hd
  simp only[fL]at h
  cases hx:fL T Γ forks n x s with
  |none=>rw[hx]at h;simp at h
  |some u=>
   rw[hx]at h
   refine .block (nw n hd hx (af.g9 ?_ (af.oW h ht)))
   rintro e s' ⟨v,h1,h2⟩
   cases e with
   |normal=>simp only[aB]at h1;subst h1;exact h2
   |exit j=>
    simp only at h1 ⊢
    cases hj:j==id with
    |true=>
     rw[hj]at h1
     simp only[aB]at h1;subst h1
     rw[if_pos (by simpa using hj)];exact h2
    |false=>
     rw[hj]at h1
     simp only[aB]at h1;subst h1
     rw[if_neg (by simpa using hj)];exact h2
   |ret=>simp only[aB]at h1;subst h1;exact h2
 |n+1,.loop x,s,Q,hd,t,h,ht=>by
  have key:∀(m:Nat) (s:aL) (t:af aL),m<=n+1->fL T Γ forks m (.loop x) s=some t->t.all Q->uz P c nt x s Q:=by
   intro m
   induction m with
   |zero=>intro s t _ h;simp[fL]at h
   |succ m ihm=>
    intro s t hmn h ht
    simp only[fL]at h
    cases hx:fL T Γ forks m x s with
    |none=>rw[hx]at h;simp at h
    |some u=>
     rw[hx]at h
     have hlen:m<=n:=aa
     refine .round (nw m (by simpa [cE]using hd) hx (af.g9 ?_ (af.oW h ht)))
     rintro e s' ⟨v,h1,h2⟩
     cases e with
     |normal=>exact ihm s' v aa h1 h2
     |exit i=>simp only[aB]at h1;subst h1;exact h2
     |ret=>simp only[aB]at h1;subst h1;exact h2
  exact(key (n+1) s t aX h ht).loop
 |n+1,.scope x,s,Q,_,t,h,_=>by simp[fL]at h
 |n+1,.goto l,s,Q,_,t,h,_=>by simp[fL]at h
 |n+1,.refuse l,s,Q,_,t,h,_=>by simp[fL]at h
 |n+1,.rangeFunc _ _ _ _,s,Q,_,t,h,_=>by simp[fL]at h
def AB (s:aL) (t:Nat):AV:=match look t s.dw with
 |some v=>v
 |none=>.tuple []
def lP (s:aL):List Nat->List AV
 |[]=>[]
 |t::l=>AB s t::lP s l
def Kq (st:aG) (ks:List Nat):List Nat:=ks++nU st ks
def bp (ls:List Nat) (s:aL):Option (List AV×aG):=
 some (lP s ls,pick s.store (Kq s.store (bV (lP s ls))))
def Ny (ls:List Nat) (e:au) (s:aL):Option (af (List AV×aG)):=
 match bp ls s with
 |some v=>some (.leaf e v)
 |none=>none
def nS (T:Types) (fn:Func) (e:au) (s:aL):Option (af (List AV)):=
 match e with
 |.exit _=>none
 |e=>match l5 T s fn.results.toList with
  |some (vs,q)=>match fW (lW (pick s.store (bV vs))) vs with
   |some us=>some (.need q (.leaf e us))
   |none=>none
  |none=>none
def cy (T:Types) (Γ:bG) (forks:List Nat) (n:Nat) (fn:Func) (x:Code) (s:aL):Option (af (List AV)):=
 match fL T Γ forks n x s with
 |some t=>t.bind (nS T fn)
 |none=>none
include hT hΓ hm in
theorem aA.ends {fn:Func} {x:Code} {s:aL} {forks:List Nat} (n:Nat) (hd:cE nt x=true) {t:af (List AV)} (hc:cy T Γ forks n fn x s=some t) {res:AV} (h:t.all fun _ us=>iW us res):
  aA P c nt x s fun e s'=>(e=.normal\/e=.ret)/\Ends T fn res s':=by
 unfold cy at hc
 cases hx:fL T Γ forks n x s with
 |none=>rw[hx]at hc;simp at hc
 |some u=>
  rw[hx]at hc
  refine nw hT hΓ hm n hd hx (af.g9 ?_ (af.oW hc h))
  rintro e s' ⟨v,h1,h2⟩
  unfold nS at h1
  have key:∀{e':au},(match l5 T s' fn.results.toList with
    |some (vs,q)=>match fW (lW (pick s'.store (bV vs))) vs with
     |some us=>some (af.need q (.leaf e' us))
     |none=>none
    |none=>none)=some v->Ends T fn res s':=by
   intro e' h1
   cases hr:l5 T s' fn.results.toList with
   |none=>rw[hr]at h1;simp at h1
   |some p=>
    obtain⟨vs,q⟩:=p
    rw[hr]at h1
    simp only at h1
    cases hf:fW (lW (pick s'.store (bV vs))) vs with
    |none=>rw[hf]at h1;simp at h1
    |some us=>
     rw[hf]at h1
     simp only[aB]at h1
     subst h1
     obtain⟨g1,g2⟩:=af.FY.1 h2
     exact⟨vs,q,us,hr,g1,hf,g2⟩
  cases e with
  |normal=>exact⟨.inl rfl,key h1⟩
  |ret=>exact⟨.inr rfl,key h1⟩
  |exit i=>simp at h1
include hT hΓ hm in
theorem cB {f:FuncId} {fn:Func} {x:Code} (hf:kM P f fn x) {args:List AV} {r:en} (hk:bV args=[]) (hlen:args.length<=fn.ntmps) (hpost:r.post=[]) {forks:List Nat} (n:Nat) {t:af (List AV)}
  (hc:cy T Γ forks n fn x ⟨bf 0 args,[],0⟩=some t) (h:r.need->t.all fun _ us=>iW us r.res) (K:Nat) (pre:aG):aY P f K args pre r:=
 lO hT hf hk hlen hpost (fun hn _ _=>.ends hT hΓ hm n hf.dst hc (h hn)) K pre
end rules
end Go.Am
namespace Go.Am
open AV
theorem Eb {v:AV}:bV [v]=keys v:=by simp[bV]
theorem jN {ρ:Nat->Option Nat} {u v:AV} (hk:keys u=[]) (h:bg u v):iQ ρ u v:=by
 refine⟨h.1,fun M w β cs hc=>?_⟩
 have:=h.2 M w cs (zZ hc (by rw[Eb,hk]))
 exact this.mono (fun b o h1 h2=>⟨h2,h1⟩) _ fun k x hx=>by simp[bz]at hx
theorem jS {ρ:Nat->Option Nat} {u:AV} (hk:keys u=[]):iQ ρ u u:=jN hk (.refl u)
theorem iI {ρ:Nat->Option Nat} {k:IntKind} {a b:Int} (h:a=b):iQ ρ (.int k a) (.int k b):=h▸jS (by simp[keys])
theorem e9 {ρ:Nat->Option Nat} {k k2 es s s2 n n2:Nat} (h:ρ k2=some k) (hs:s=s2) (hn:n=n2):iQ ρ (.own k es s n) (.own k2 es s2 n2):=by
 subst hs hn
 refine⟨rfl,fun M w β cs hc=>?_⟩
 cases hc with
 |own h1 h2 h3 h4 h5 h6=>
  cases h6
  exact .own (by simp[h,h1]) h2 h3 h4 h5 .nil
 |own0 h5 h6=>cases h6;exact .own0 h5 .nil
theorem aea {ρ:Nat->Option Nat} {k es:Nat} (h:0<es):iQ ρ .nil (.own k es 0 0):=by
 refine⟨rfl,fun M w β cs hc=>?_⟩
 cases hc with
 |vnil h1=>cases h1;exact .own0 h .nil
theorem lG {ρ:Nat->Option Nat} {k k2 idx es off:Nat} {p:List Nat} (h:ρ k2=some k):iQ ρ (.ptr k idx es off p) (.ptr k2 idx es off p):=by
 refine⟨rfl,fun M w β cs hc=>?_⟩
 cases hc with
 |ptr h1 h6=>
  cases h6
  exact .ptr (by simp only[h,Option.bind_some];exact h1) .nil
theorem bg.trans {a b c:AV} (h:bg a b) (h':bg b c):bg a c:=⟨h'.1.trans h.1,fun M w cs hc=>h'.2 M w cs (h.2 M w cs hc)⟩
theorem fo {a b:AV} (h:a=b):bg a b:=h▸.refl a
theorem cu {k:IntKind} {a b:Int} (h:a=b):bg (.int k a) (.int k b):=h▸.refl _
theorem iV {a b:Bool} (h:a=b):bg (.bool a) (.bool b):=h▸.refl _
theorem FX {M:Nat->Prop} {w:World}:∀{us vs:List AV} {cs:List Value},ir us vs->aQ M w bz us cs->aQ M w bz vs cs
 |[],[],_,_,h=>h
 |u::us,v::vs,cs,hl,h=>by
  obtain⟨c1,c2,rfl,h1,h2⟩:=h.split
  exact(hl.1.2 M w c1 h1).cons (FX hl.2 h2)
 |[],_::_,_,h,_=>h.elim
 |_::_,[],_,h,_=>h.elim
theorem mY {us vs:List AV} (h:ir us vs):bg (.agg us) (.agg vs):=by
 refine⟨rfl,fun M w cs hc=>?_⟩
 cases hc with
 |agg h1 h2=>cases h2;exact .agg (FX h h1) .nil
theorem ko {es n:Nat} {f g:Nat->AV} (h:∀i,i<n->bg (f i) (g i)):bg (.az es n f) (.az es n g):=by
 refine⟨rfl,fun M w cs hc=>?_⟩
 cases hc with
 |az h1 h2 h3 h4 h5 h6=>cases h6;exact .az h1 h2 h3 h4 (fun i hi=>(h i hi).2 _ _ _ (h5 i hi)) .nil
theorem zj {es n m:Nat} {f g:Nat->AV} (hn:n=m) (h:∀i,i<n->f i=g i):bg (.az es n f) (.az es m g):=hn▸ko fun i hi=>fo (h i hi)
theorem aer {N i:Nat} {v:Value} (h:(uF N)[i]?=some v):i<nl N/\v=.int .u32 (aE N i):=by
 simp only[uF,List.getElem?_map]at h
 rw[Option.map_eq_some_iff]at h
 obtain⟨a,h1,h2⟩:=h
 by_cases hi:i<nl N
 ·rw[List.getElem?_range hi]at h1
  simp only[aB]at h1
  subst h1
  exact⟨hi,h2.symm⟩
 ·rw[List.getElem?_eq_none (by simpa using hi)]at h1
  simp at h1
def aD (z:Nat->Nat):Nat->AV:=fun i=>.int .u32 (z i:Nat)
theorem l8 {n N:Nat} {f:Nat->AV} (hn:nl N=n) (hf:∀i,i<n->f i=.int .u32 (aE N i:Nat)):bg (.az 1 n f) (.mag N):=by
 subst hn
 refine⟨rfl,fun M w cs hc=>?_⟩
 cases hc with
 |az h1 h2 h3 h4 h5 h6=>
  rename_i base cap cs cf
  cases h6
  have hcf:∀i,i<nl N->cf i=[.int .u32 (aE N i)]:=fun i hi=>by
   have:=h5 i hi
   rw[hf i hi]at this
   revert this
   generalize cf i=l
   intro this
   cases this with
   |int h=>cases h;rfl
  refine .mag ?_ h3 .nil
  rcases h1 with h1|⟨b,o,rfl,hm⟩
  ·refine .inl ?_
   unfold nl at h1
   split at h1
   ·assumption
   ·omega
  ·by_cases h0:nl N=0
   ·refine .inl ?_
    unfold nl at h0
    split at h0
    ·assumption
    ·omega
   ·refine .inr ⟨b,o,rfl,?_⟩
    obtain⟨c,ty,fr,g1,g2,g3⟩:=hm 0 aa
    refine⟨c,ty,fr,g1,g2,fun i v hv=>?_⟩
    obtain⟨hi,rfl⟩:=aer hv
    obtain⟨c',ty',fr',g1',g2',g3'⟩:=hm i hi
    rw[g1]at g1'
    simp only[aB,Obj.cells.injEq]at g1'
    obtain⟨rfl,rfl,rfl⟩:=g1'
    have:=g3' 0 _ (by rw[hcf i hi];rfl)
    simpa using this
theorem Ht {N n:Nat} {f:Nat->AV} (hn:n=nl N) (hf:∀i,i<n->f i=.int .u32 (aE N i:Nat)):bg (.mag N) (.az 1 n f):=by
 subst hn
 refine⟨rfl,fun M w cs hc=>?_⟩
 cases hc with
 |mag h1 h2 h3=>
  cases h3
  refine .az (cf:=fun i=>[.int .u32 (aE N i)]) ?_ aa h2 (fun _ _=>rfl) (fun i hi=>by rw[hf i hi];exact .int .nil) .nil
  rcases h1 with rfl|⟨b,o,rfl,c,ty,fr,g1,g2,g3⟩
  ·exact .inl (by simp[nl])
  ·refine .inr ⟨b,o,rfl,fun i hi=>⟨c,ty,fr,g1,g2,fun j v hj=>?_⟩⟩
   cases j with
   |zero=>
    simp only[List.getElem?_cons_zero,aB]at hj
    subst hj
    have:=g3 i _ (BU hi)
    simpa using this
   |succ j=>simp at hj
theorem mC {es:Nat} {f:Nat->AV} (h:0<es):bg .nil (.az es 0 f):=by
 refine⟨rfl,fun M w cs hc=>?_⟩
 cases hc with
 |vnil h1=>
  cases h1
  exact .az (cf:=fun _=>[]) (.inl rfl) h aa (fun i hi=>aa) (fun i hi=>aa) .nil
theorem mM:bg .nil (.mag 0):=(mC (es:=1) (f:=fun _=>.nil) aa).trans (l8 (by simp[nl]) fun i hi=>aa)
theorem sD {b:Bool} {x y:Nat} {q:Rat} {n:Nat} (hs:Sz q n) (hb:b=decide (q<0)) (hx:x=q.num.natAbs) (hy:y=if q.den=1 then 0 else q.den):bg (.agg [.bool b,.mag x,.mag y]) (.rat q n):=by
 subst hb hx
 refine⟨rfl,fun M w cs hc=>?_⟩
 cases hc with
 |agg h1 h2=>
  cases h2
  cases h1 with
  |bool h1=>
   obtain⟨c1,c2,rfl,h1,h2⟩:=h1.split
   have l1:=h1.length
   have l2:=h2.length
   simp only[sizes,size]at l1 l2
   match c1,c2,l1,l2 with
   |[x],[y],_,_=>exact .rat hs h1 (hy▸h2) .nil
theorem Og {q:Rat} {n:Nat}:bg (.rat q n) (.agg (AV.kids (.rat q n))):=by
 refine⟨rfl,fun M w cs hc=>?_⟩
 cases hc with
 |rat hs h1 h2 h3=>cases h3;exact .agg (.bool (h1.cons h2)) .nil
theorem oJ {q:Rat} {n m:Nat} (h:n<=m):bg (.rat q n) (.rat q m):=by
 refine⟨rfl,fun M w cs hc=>?_⟩
 cases hc with
 |rat hs h1 h2 h3=>
  cases h3
  exact .rat ⟨Nat.lt_of_lt_of_le hs.1 (Nat.pow_le_pow_right aa h),Nat.lt_of_lt_of_le hs.2 (Nat.pow_le_pow_right aa h)⟩ h1 h2 .nil
def aH {α:Type}:List Nat->List α->List (Nat×α)
 |k::ks,a::l=>(k,a)::aH ks l
 |_,_=>[]
def iT (ρ:Nat->Option Nat):List AV->List AV->Prop
 |[],[]=>True
 |u::us,v::vs=>(u.isTuple=false/\iQ ρ u v)/\iT ρ us vs
 |_,_=>False
def qa (ρ:Nat->Option Nat) (os:aG):aG->Prop
 |[]=>True
 |(k2,o2)::ps=>(∃k1 o1,ρ k2=some k1/\look k1 os=some o1/\gQ ρ o1 o2)/\qa ρ os ps
theorem Jq {s:aL} {t:Nat} (h:(AB s t).isTuple=false):look t s.dw=some (AB s t):=by
 unfold AB at h ⊢
 split
 ·assumption
 ·rename_i hn
  rw[hn]at h
  simp[isTuple]at h
theorem BA {s:aL}:∀{ls:List Nat} {vs:List AV} {ρ:Nat->Option Nat},iT ρ (lP s ls) vs->∀t v,look t (aH ls vs)=some v->∃u,look t s.dw=some u/\u.isTuple=false/\iQ ρ u v
 |[],vs,ρ,_,t,v,h=>by simp[aH,look]at h
 |x::ls,vs,ρ,hle,t,v,h=>by
  cases vs with
  |nil=>exact hle.elim
  |cons b vs=>
   simp only[aH,look]at h
   split at h
   ·rename_i he
    have:x=t:=by simpa using he
    subst this
    simp only[aB]at h
    subst h
    exact⟨_,Jq hle.1.1,hle.1.1,hle.1.2⟩
   ·exact BA hle.2 t v h
theorem EK {os:aG}:∀{ps:aG} {ρ:Nat->Option Nat},qa ρ os ps->∀k2 o2,look k2 ps=some o2->∃k1 o1,ρ k2=some k1/\look k1 os=some o1/\gQ ρ o1 o2
 |[],_,_,_,_,h=>by simp[look]at h
 |(j,b)::ps,ρ,hle,t,v,h=>by
  simp only[look]at h
  split at h
  ·rename_i he
   have:j=t:=by simpa using he
   subst this
   simp only[aB]at h
   subst h
   exact hle.1
  ·exact EK hle.2 t v h
def bH (l:List (Nat×Nat)):Nat->Option Nat:=fun k=>look k l
def jB (nx:Nat) (l:List (Nat×Nat)):Bool:=l.all fun p=>decide (p.1<nx)&&l.all fun q=>p.2!=q.2||p.1==q.1
theorem ow {α:Type} {k:Nat} {a:α}:∀{l:List (Nat×α)},look k l=some a->(k,a)∈l
 |[],h=>by simp[look]at h
 |(j,b)::l,h=>by
  simp only[look]at h
  split at h
  ·rename_i he
   have:j=k:=by simpa using he
   subst this
   simp only[aB]at h
   subst h
   simp
  ·exact List.mem_cons_of_mem _ (ow h)
def wC (nx:Nat) (ρ:Nat->Option Nat) (os:aG):aG->Prop
 |[]=>True
 |(k2,o2)::ps=>((∃k1 o1,ρ k2=some k1/\look k1 os=some o1/\gQ ρ o1 o2)\/(ρ k2=none/\uO o2/\k2<nx))/\wC nx ρ os ps
theorem qa.HD {nx:Nat} {ρ:Nat->Option Nat} {os:aG}:∀{ps:aG},qa ρ os ps->wC nx ρ os ps
 |[],_=>trivial
 |(_,_)::_,h=>⟨.inl h.1,qa.HD h.2⟩
theorem Dw {nx:Nat} {os:aG}:∀{ps:aG} {ρ:Nat->Option Nat},wC nx ρ os ps->∀k2 o2,look k2 ps=some o2->(∃k1 o1,ρ k2=some k1/\look k1 os=some o1/\gQ ρ o1 o2)\/(ρ k2=none/\uO o2/\k2<nx)
 |[],_,_,_,_,h=>by simp[look]at h
 |(j,b)::ps,ρ,hle,t,v,h=>by
  simp only[look]at h
  split at h
  ·rename_i he
   have:j=t:=by simpa using he
   subst this
   simp only[aB]at h
   subst h
   exact hle.1
  ·exact Dw hle.2 t v h
theorem Fs {c:Ctx} {s':aL} {ls:List Nat} {us vs:List AV} {os ps:aG} {nx:Nat} (rl:List (Nat×Nat)) (hv:bp ls s'=some (us,os)) (hk0:∀k x,c.k0 k=some x->look k rl=some k) (hr:jB nx rl=true)
  (hs:iT (bH rl) us vs) (ho:wC nx (bH rl) os ps):∃ρ,Le c ρ s' ⟨aH ls vs,ps,nx⟩:=by
 unfold bp at hv
 ·simp only[aB,Prod.mk.injEq]at hv
  obtain⟨rfl,rfl⟩:=hv
  have hall:∀p∈rl,p.1<nx/\∀q∈rl,p.2=q.2->p.1=q.1:=fun p hp=>by
   have:=List.all_eq_true.1 hr p hp
   simp only[Bool.and_eq_true,bI]at this
   refine⟨this.1,fun q hq he=>?_⟩
   have h3:=List.all_eq_true.1 this.2 q hq
   simpa [he]using h3
  refine⟨bH rl,?_,BA hs,fun k2 o2 hk=>?_,fun k2 k1 hk=>(hall _ (ow hk)).1,hk0⟩
  ·intro a b k ha hb
   exact(hall _ (ow ha)).2 _ (ow hb) rfl
  ·refine(Dw ho k2 o2 hk).imp (fun⟨k1,o1,g1,g2,g3⟩=>⟨k1,o1,g1,?_,g3⟩) id
   rw[ox]at g2
   split at g2
   ·exact g2
   ·simp at g2
theorem eC {c:Ctx} {s':aL} {ls:List Nat} {us vs:List AV} {os ps:aG} {nx:Nat} (rl:List (Nat×Nat)) (hv:bp ls s'=some (us,os)) (hk0:c.k0=bz) (hr:jB nx rl=true)
  (hs:iT (bH rl) us vs) (ho:qa (bH rl) os ps):∃ρ,Le c ρ s' ⟨aH ls vs,ps,nx⟩:=
 Fs rl hv (fun k x hk=>by rw[hk0]at hk;simp[bz]at hk) hr hs ho.HD
theorem jj {ρ:Nat->Option Nat} {r w:Bool} {es n m:Nat} {f g:Nat->AV} (hn:m=n) (h:∀i,i<n->iQ ρ (f i) (g i)):gQ ρ ⟨r,w,es,n,f⟩ ⟨r,w,es,m,g⟩:=⟨rfl,rfl,rfl,hn,h⟩
theorem je {P:Program} {f:FuncId} {K:Nat} {args args':List AV} {r:en} (hf:aY P f K args' [] r) (hk:bV args=[]) (h:ir args args') (pre:aG):aY P f K args pre r:=by
 refine aY.frame (pre:=[]) ?_ (fun k o hk=>by simp[look]at hk)
 intro need
 obtain⟨h1,h2⟩:=hf need
 refine⟨h1,fun c D D' β w vs hw0 hMw hrel hD hK hv=>h2 c D D' β w vs hw0 hMw hrel hD hK ?_⟩
 have h3:=BF h (hv.bz hk)
 exact h3.mono (fun b o h1 h2=>⟨h2,h1⟩) fun k x hx=>by simp[bz]at hx
def cw (g:List AV->Option en):Spec:=fun _ args pre=>match fW pre args with
 |some ar=>match g ar with
  |some r=>match r.post with
   |[]=>some r
   |_=>none
  |none=>none
 |none=>none
mutual
theorem MS {pre:aG}:∀{v u:AV},dr pre v=some u->keys u=[]
 |.bool _,u,h=>by simp only[dr,aB]at h;subst h;rfl
 |.int _ _,u,h=>by simp only[dr,aB]at h;subst h;rfl
 |.rat _ _,u,h=>by simp only[dr,aB]at h;subst h;rfl
 |.mag _,u,h=>by simp only[dr,aB]at h;subst h;rfl
 |.az _ _ _,u,h=>by simp only[dr,aB]at h;subst h;rfl
 |.eJ _ _ _ _,u,h=>by simp only[dr,aB]at h;subst h;rfl
 |.nil,u,h|.void,u,h|.str _,u,h=>by simp only[dr,aB]at h;subst h;rfl
 |.bW _,u,h=>by simp only[dr,aB]at h;subst h;rfl
 |.ptr _ _ _ _ _,u,h=>by simp[dr]at h
 |.tuple _,u,h=>by simp[dr]at h
 |.cz c v,u,h=>by
  simp only[dr]at h
  split at h
  ·rename_i m hm
   simp only[aB]at h;subst h
   simp only[keys];exact MS hm
  ·simp at h
 |.func f l,u,h=>by
  simp only[dr]at h
  split at h
  ·rename_i m hm
   split at h
   ·simp only[aB]at h;subst h
    simp only[keys];exact yU hm
   ·simp at h
  ·simp at h
 |.own k es s n,u,h=>by
  simp only[dr]at h
  split at h
  ·split at h
   ·simp only[aB]at h;subst h;rfl
   ·simp at h
  ·simp at h
 |.agg l,u,h=>by
  simp only[dr]at h
  split at h
  ·rename_i m hm
   simp only[aB]at h;subst h
   simp only[keys];exact yU hm
  ·simp at h
theorem yU {pre:aG}:∀{l m:List AV},fW pre l=some m->bV m=[]
 |[],m,h=>by simp only[fW,aB]at h;subst h;rfl
 |a::l,m,h=>by
  simp only[fW]at h
  split at h
  ·rename_i b m' h1 h2
   simp only[aB]at h;subst h
   simp only[bV,MS h1,yU h2,List.append_nil]
  ·simp at h
end
theorem cY {P:Program} {f:FuncId} {g:List AV->Option en} (h:∀K args r,bV args=[]->g args=some r->r.post=[]->aY P f K args [] r):
  ∀K args pre r,cw g K args pre=some r->aY P f K args pre r:=by
 intro K args pre r hg
 unfold cw at hg
 split at hg
 ·rename_i ar has
  split at hg
  ·rename_i r' hr'
   split at hg
   ·rename_i hp
    simp only[aB]at hg
    subst hg
    have hf:=h K ar r' (yU has) hr' hp
    intro need
    obtain⟨h1,h2⟩:=hf need
    refine⟨fun k o ho=>by rw[hp]at ho;simp[look]at ho,fun c D D' β w vs hw0 hMw hrel hD hK hv=>?_⟩
    have hv':cQ (aP c pre β) w bz ar vs:=AE hrel (fun _ _ h=>h) has hv
    exact(hf.frame (pre':=pre) (fun k o hk=>by simp[look]at hk)).use need hrel (fun _ _ h=>h) hD hK (hv'.mono (fun b o h1 h2=>⟨h2,h1⟩) fun k x hx=>by simp[bz]at hx)
   ·simp at hg
  ·simp at hg
 ·simp at hg
theorem aU {ρ:Nat->Option Nat} {u:AV} (h1:u.isTuple=false:=by exact rfl) (h2:keys u=[]:=by exact rfl):u.isTuple=false/\iQ ρ u u:=⟨h1,jS h2⟩
abbrev bF (P:Program) (s:Spec) (f:FuncId):Prop:=∀K args pre r,s K args pre=some r->aY P f K args pre r
end Go.Am
