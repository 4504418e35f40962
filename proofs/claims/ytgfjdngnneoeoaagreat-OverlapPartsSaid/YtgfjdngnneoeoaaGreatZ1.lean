/- 'opAV' is right, for every operation. -/
import Derived.Test.YtgfjdngnneoeoaaGreatZ0
import Derived.Laws.Cover3
import Derived.Laws.Strings
import Derived.Laws.BytesString
import Derived.Laws.Concat
import Derived.RangeFuncRecord
import Derived.Below
set_option linter.unusedVariables false
namespace Go.Am
open AV
section ops
variable {P:Program} {T:Types} (hT:dJ P T) {Γ:aV} (hΓ:bg P Γ)
variable {c:Ctx} {st pre:aD} {D D':Nat->Prop} {β:aZ} {w:World}
include hT hΓ in
theorem NY (h:bu c st D β w) (hpre:∀k o,look k pre=some o->look k st=some o) (hD:∀k,D k->D' k) {K:Nat} (hK:∀k,K<=k->k<K+cR->¬D k/\D' k)
  {ρ:Operand->Option AV} {ev:Operand->Value} (hρ:∀x v,ρ x=some v->bJ (aO c st β) w β v (ev x)) {o:Oper} {cl:Call} (ho:o.op=.call cl) {r:eu}
  (hr:jQ T Γ K ρ pre cl=some r) (need:r.need):kE P (execOp ev o) w (eW c st D' β w r.ct r.val):=by
 have hK0:¬D K/\D' K:=hK K aR (by simp[cR])
 obtain⟨callee,args,argTypes⟩:=cl
 simp only[execOp,ho]
 cases callee with
 |value f=>
  simp only[jQ]at hr
  cases hf:ρ f with
  |none=>grind
  |some fv=>
   cases ha:eM ρ args.toList with
   |none=>grind
   |some as'=>
    rw[hf,ha]at hr
    cases fv<;>simp only[reduceCtorEq]at hr
    case func g caps=>
     cases hs:look g Γ with
     |none=>grind
     |some s=>
      rw[hs]at hr
      simp at hr
      cases hq:s K (as'++caps) pre with
      |none=>grind
      |some q=>
       rw[hq]at hr
       simp at hr
       subst hr
       obtain⟨vs,hev,h1,h2⟩:=(hρ f _ hf).func
       have hargs:=cH.append (mW hρ ha) (Nm h1 h2)
       have hinv:=(hΓ g s hs K _ pre q hq).use need h hpre hD hK hargs
       have hd:=hinv.C4
       have e1:(Array.map ev args)++vs.toArray=(List.map ev args.toList++vs).toArray:=by
        simp
       have:(do let d <-resolve ev {callee:=Callee.value f,args:=args,argTypes:=argTypes} o.type;invoke d.target d.args:Sem Next)=callFunc g (List.map ev args.toList++vs).toArray:=by
        rw[<-e1]
        simp only[resolve,hev,Deferred.ofValue]
        show callFunc g ((#[]++Array.map ev args)++vs.toArray)=_
        simp
       grind
 |invoke r m=>cases hr
 |builtin bi=>
  have hint:∀k n,bJ (aO c st β) w β (.int k n) (.int k n):=fun k n=>bw.bP (.cz (.int .nil) rfl)
  have hres:(do let d <-resolve ev {callee:=Callee.builtin bi,args:=args,argTypes:=argTypes} o.type;invoke d.target d.args:Sem Next)=
    builtin bi argTypes o.type (args.map fun|.const _=>true|_=>false) (Array.map ev args):=rfl
  rw[hres]
  cases bi<;>simp only[jQ,reduceCtorEq]at hr
  case len=>
   cases ht:argTypes[0]? with
   |none=>grind
   |some t=>
    cases ha:eM ρ args.toList with
    |none=>grind
    |some as'=>
     rw[ht,ha]at hr
     match as',ha,hr with
     |[x],ha,hr=>
      simp at hr
      have hv:=mW hρ ha
      obtain⟨xv,hxs,hx⟩:=hv.single
      have hargs:Array.map ev args=#[xv]:=by grind
      rw[hargs]
      cases htl:look t T with
      |none=>grind
      |some ti=>
       rw[htl]at hr
       obtain⟨d,sz,by',z⟩:=ti
       have hu:=(hT t _ htl).dh
       cases d<;>simp only[reduceCtorEq]at hr
       case slice e=>
        cases hn:lenOf x with
        |none=>grind
        |some n=>
         rw[hn]at hr
         simp only[cu,ax]at hr
         subst hr
         obtain⟨base,cap,rfl⟩:=Ul hx hn
         refine cO (x:=.int .i64 n) (w':=w) ?_ (dP h hD (hint _ _))
         simp[builtin,Builtin.len_,ht,run_underlying hu,goInt]
       case array n e=>
        simp only[cu,ax]at hr
        subst hr
        refine cO (x:=.int .i64 n) (w':=w) ?_ (dP h hD (hint _ _))
        simp[builtin,Builtin.len_,ht,run_underlying hu,goInt]
     |[],ha,hr=>grind
     |_::_::_,ha,hr=>grind
  case cap=>
   cases ht:argTypes[0]? with
   |none=>grind
   |some t=>
    cases ha:eM ρ args.toList with
    |none=>grind
    |some as'=>
     rw[ht,ha]at hr
     match as',ha,hr with
     |[x],ha,hr=>
      cases x<;>simp only[reduceCtorEq]at hr
      case nil=>
       have hv:=mW hρ ha
       obtain⟨xv,hxs,hx⟩:=hv.single
       have hargs:Array.map ev args=#[xv]:=by grind
       rw[hargs]
       cases htl:look t T with
       |none=>rw[htl]at hr;simp at hr
       |some ti=>
        rw[htl]at hr
        obtain⟨d,sz,by',z⟩:=ti
        have hu:=(hT t _ htl).dh
        cases d<;>simp only[reduceCtorEq]at hr
        case slice e=>
         simp only[cu,ax]at hr
         subst hr
         have hxn:=hx.bP.nil
         subst hxn
         refine cO (x:=.int .i64 0) (w':=w) ?_ (dP h hD (hint _ _))
         simp[builtin,Builtin.cap_,ht,run_underlying hu,goInt]
     |[],ha,hr=>simp at hr
     |_::_::_,ha,hr=>simp at hr
  case append=>
   cases ht:argTypes[0]? with
   |none=>rw[ht]at hr;simp at hr
   |some t=>
    cases ht2:argTypes[1]? with
    |none=>rw[ht,ht2]at hr;simp at hr
    |some t'=>
     cases ha:eM ρ args.toList with
     |none=>rw[ht,ht2,ha]at hr;simp at hr
     |some as'=>
      rw[ht,ht2,ha]at hr
      match as',ha,hr with
      |[x,y],ha,hr=>
       simp only at hr
       have hv:=mW hρ ha
       obtain⟨xv,yv,hxs,hx,hy⟩:=hv.two
       have hargs:Array.map ev args=#[xv,yv]:=by apply Array.ext';simpa using hxs
       rw[hargs]
       have hat:∀s,(Builtin.append_ argTypes o.type #[s,yv]).run P w=(Builtin.append_ #[t,t'] o.type #[s,yv]).run P w:=fun s=>by
        simp only[Builtin.append_,ht,ht2]
        rfl
       cases htl:look t T with
       |none=>rw[htl]at hr;simp at hr
       |some ti=>
        cases htl2:look t' T with
        |none=>rw[htl,htl2]at hr;obtain⟨d,_,_,_⟩:=ti;cases d<;>simp at hr
        |some ti'=>
         rw[htl,htl2]at hr
         obtain⟨d,sz,by',z⟩:=ti
         obtain⟨d',sz',by'',z'⟩:=ti'
         cases d<;>cases d'<;>simp only[reduceCtorEq]at hr
         case slice.int e k'=>
          cases x<;>try (simp only[reduceCtorEq]at hr)
          case nil=>
           cases y<;>try (simp only[reduceCtorEq]at hr)
           case int ky n=>
            cases ky<;>try (simp only[reduceCtorEq]at hr)
            case i64=>
             cases he:look e T with
             |none=>rw[he]at hr;simp at hr
             |some ei=>
              rw[he]at hr
              simp only at hr
              split at hr
              ·simp at hr
              ·rename_i hc
               simp only[Bool.or_eq_true,beq_iff_eq,bne_iff_ne,ne_eq,not_or,Bool.not_eq_true,Decidable.not_not]at hc
               simp only[ax]at hr
               subst hr
               obtain⟨⟨⟨c1,c2⟩,c3⟩,c4⟩:=hc
               subst c1
               have hxn:=hx.bP.nil
               subst hxn
               have hyn:=hy.bP.int
               subst hyn
               obtain⟨zv,w',hrun,hR⟩:=VZ w hT (ty:=o.type) h hD hK0.1 hK0.2 htl htl2 rfl rfl he c2 c3 c4 need.1 need.2
               refine cO ?_ hR
               simp only[builtin,Sem.run_bind,hat,hrun,Result.andThen_ok,Sem.run_pure]
         case slice.slice e e'=>
          cases he:look e T with
          |none=>rw[he]at hr;simp at hr
          |some ei=>
           rw[he]at hr
           simp only at hr
           cases hra:readAll pre ei.size y with
           |none=>rw[hra]at hr;cases x<;>simp at hr
           |some mg=>
            obtain⟨m,g⟩:=mg
            rw[hra]at hr
            cases x<;>try (simp only[reduceCtorEq]at hr)
            case nil=>
             split at hr
             ·simp at hr
             ·rename_i hc
              simp only[Bool.or_eq_true,beq_iff_eq,bne_iff_ne,ne_eq,not_or,Bool.not_eq_true,Decidable.not_not]at hc
              simp only[ax]at hr
              subst hr
              have:=hx.bP.nil
              subst this
              have hb:(0<m\/m=0)/\m*(ei.bytes+1)*2<=2^47:=by
               refine⟨aa,?_⟩
               unfold eu.need at need
               cases hz:Dk Γ with
               |true=>rw[hz]at need;exact need
               |false=>rw[hz]at need;exact need.2
              obtain⟨hb1,hb2⟩:=hb
              rcases hb1 with hb1|hb1
              ·obtain⟨zv,w',hrun,hR⟩:=VO hT (ty:=o.type) h hpre hD hK0.1 hK0.2 htl htl2 rfl rfl he hc.1.1 hc.1.2 hc.2 hy.bP hra hb1 hb2
               refine cO ?_ hR
               simp only[builtin,Sem.run_bind,hat,hrun,Result.andThen_ok,Sem.run_pure]
              ·subst hb1
               obtain⟨zv,w',hrun,hR⟩:=Uk hT (ty:=o.type) h hpre hD hK0.1 hK0.2 htl htl2 rfl rfl he hc.1.1 hc.2 hy.bP hra
               refine cO ?_ hR
               simp only[builtin,Sem.run_bind,hat,hrun,Result.andThen_ok,Sem.run_pure]
            case own k es s n=>
             cases s with
             |succ s=>exact absurd (show(none:Option eu)=some r from hr) (by simp)
             |zero=>
              simp only at hr
              cases hk:look k pre with
              |none=>rw[hk]at hr;simp at hr
              |some ob=>
               rw[hk]at hr
               simp only at hr
               split at hr
               ·rename_i hc
                simp only[Bool.and_eq_true,beq_iff_eq,bne_iff_ne,ne_eq,Bool.not_eq_true']at hc
                obtain⟨⟨⟨⟨⟨⟨⟨c1,c2⟩,c3⟩,c4⟩,c5⟩,c6⟩,c7⟩,c8⟩:=hc
                simp only[ax]at hr
                subst hr
                subst c4
                obtain⟨zv,w',hrun,hR,_⟩:=JJ hT (ty:=o.type) h hpre hD hK0.1 hK0.2 htl htl2 rfl rfl he c5 c6 c7 hy.bP hra hx.bP (hpre k ob hk) c1 c2 c3 need
                refine cO ?_ hR
                simp only[builtin,Sem.run_bind,hat,hrun,Result.andThen_ok,Sem.run_pure]
               ·simp at hr
      |[],ha,hr=>simp at hr
      |[_],ha,hr=>simp at hr
      |_::_::_::_,ha,hr=>simp at hr
  case copy=>
   cases ht:argTypes[0]? with
   |none=>rw[ht]at hr;simp at hr
   |some t=>
    cases ht2:argTypes[1]? with
    |none=>rw[ht,ht2]at hr;simp at hr
    |some t'=>
     cases ha:eM ρ args.toList with
     |none=>rw[ht,ht2,ha]at hr;simp at hr
     |some as'=>
      rw[ht,ht2,ha]at hr
      match as',ha,hr with
      |[x,y],ha,hr=>
       simp only at hr
       have hv:=mW hρ ha
       obtain⟨xv,yv,hxs,hx,hy⟩:=hv.two
       have hargs:Array.map ev args=#[xv,yv]:=by apply Array.ext';simpa using hxs
       rw[hargs]
       have hat:∀s,(Builtin.copy_ argTypes o.type #[s,yv]).run P w=(Builtin.copy_ #[t,t'] o.type #[s,yv]).run P w:=fun s=>by
        simp only[Builtin.copy_,ht]
        rfl
       cases htl:look t T with
       |none=>rw[htl]at hr;simp at hr
       |some ti=>
        cases htl2:look t' T with
        |none=>rw[htl,htl2]at hr;obtain⟨d,_,_,_⟩:=ti;cases d<;>simp at hr
        |some ti'=>
         rw[htl,htl2]at hr
         obtain⟨d,sz,by',z⟩:=ti
         obtain⟨d',sz',by'',z'⟩:=ti'
         cases d<;>cases d'<;>simp only[reduceCtorEq]at hr
         case slice.slice e e'=>
          cases he:look e T with
          |none=>rw[he]at hr;simp at hr
          |some ei=>
           rw[he]at hr
           simp only at hr
           cases hra:readAll pre ei.size y with
           |none=>rw[hra]at hr;cases x<;>simp at hr
           |some mg=>
            obtain⟨m,g⟩:=mg
            rw[hra]at hr
            cases x<;>simp only[reduceCtorEq]at hr
            case own k es s n=>
             cases hk:look k pre with
             |none=>rw[hk]at hr;simp at hr
             |some ob=>
              rw[hk]at hr
              simp only at hr
              split at hr
              ·rename_i hc
               simp only[Bool.and_eq_true,beq_iff_eq,Bool.not_eq_true']at hc
               obtain⟨⟨⟨⟨c1,c2⟩,c3⟩,c4⟩,c5⟩:=hc
               simp only[ax]at hr
               subst hr
               subst c4
               obtain⟨zv,w',hrun,hR⟩:=abi hT (t':=t') (ty:=o.type) h hpre hD htl rfl he hy.bP hra hx.bP (hpre k ob hk) c1 c2 c3
               refine cO ?_ hR
               simp only[builtin,Sem.run_bind,hat,hrun,Result.andThen_ok,Sem.run_pure]
              ·simp at hr
      |[],ha,hr=>simp at hr
      |[_],ha,hr=>simp at hr
      |_::_::_::_,ha,hr=>simp at hr
  case clear=>
   cases ht:argTypes[0]? with
   |none=>rw[ht]at hr;simp at hr
   |some t=>
    cases ha:eM ρ args.toList with
    |none=>rw[ht,ha]at hr;simp at hr
    |some as'=>
     rw[ht,ha]at hr
     match as',ha,hr with
     |[x],ha,hr=>
      cases x<;>simp only[reduceCtorEq]at hr
      case own k es s n=>
       have hv:=mW hρ ha
       obtain⟨xv,hxs,hx⟩:=hv.single
       have hargs:Array.map ev args=#[xv]:=by apply Array.ext';simpa using hxs
       rw[hargs]
       have hat:∀s,(Builtin.clear_ argTypes o.type #[s]).run P w=(Builtin.clear_ #[t] o.type #[s]).run P w:=fun s=>by
        simp only[Builtin.clear_,ht]
        rfl
       cases htl:look t T with
       |none=>rw[htl]at hr;simp at hr
       |some ti=>
        rw[htl]at hr
        obtain⟨d,sz,by',z⟩:=ti
        cases d<;>simp only[reduceCtorEq]at hr
        case slice e=>
         cases he:look e T with
         |none=>rw[he]at hr;simp at hr
         |some ei=>
          cases hk:look k pre with
          |none=>rw[he,hk]at hr;simp at hr
          |some ob=>
           rw[he,hk]at hr
           simp only at hr
           split at hr
           ·rename_i hc
            simp only[Bool.and_eq_true,beq_iff_eq,Bool.not_eq_true']at hc
            obtain⟨⟨⟨⟨⟨c1,c2⟩,c3⟩,c4⟩,c5⟩,c6⟩:=hc
            simp only[ax]at hr
            subst hr
            subst c4
            obtain⟨zv,w',hrun,hR⟩:=ae6 hT (ty:=o.type) h hD htl rfl he c5 c6 hx.bP (hpre k ob hk) c1 c2 c3
            refine cO ?_ hR
            simp only[builtin,Sem.run_bind,hat,hrun,Result.andThen_ok,Sem.run_pure]
           ·simp at hr
     |[],ha,hr=>simp at hr
     |_::_::_,ha,hr=>simp at hr
  case min=>
   cases ha:eM ρ args.toList with
   |none=>rw[ha]at hr;simp at hr
   |some as'=>
    rw[ha]at hr
    match as',ha,hr with
    |[.int k a,.int j b],ha,hr=>
     simp only at hr
     split at hr
     ·rename_i hk
      have:=AM hk
      subst this
      simp only[cu,ax]at hr
      subst hr
      obtain⟨xv,yv,hxs,hx,hy⟩:=(mW hρ ha).two
      have hargs:Array.map ev args=#[xv,yv]:=by apply Array.ext';simpa using hxs
      rw[hargs,hx.zc,hy.zc]
      refine cO (x:=.int k (if b<a then b else a)) (w':=w) ?_ (dP h hD (hint _ _))
      simp[builtin,Builtin.min_,Builtin.min2]
     ·simp at hr
  case max=>
   cases ha:eM ρ args.toList with
   |none=>rw[ha]at hr;simp at hr
   |some as'=>
    rw[ha]at hr
    match as',ha,hr with
    |[.int k a,.int j b],ha,hr=>
     simp only at hr
     split at hr
     ·rename_i hk
      have:=AM hk
      subst this
      simp only[cu,ax]at hr
      subst hr
      obtain⟨xv,yv,hxs,hx,hy⟩:=(mW hρ ha).two
      have hargs:Array.map ev args=#[xv,yv]:=by apply Array.ext';simpa using hxs
      rw[hargs,hx.zc,hy.zc]
      refine cO (x:=.int k (if a<b then b else a)) (w':=w) ?_ (dP h hD (hint _ _))
      simp[builtin,Builtin.max_,Builtin.max2]
     ·simp at hr
end ops
end Go.Am
namespace Go.Am
open AV
section ops
variable {P:Program} {T:Types} (hT:dJ P T) {Γ:aV} (hΓ:bg P Γ)
variable {c:Ctx} {st pre:aD} {D D':Nat->Prop} {β:aZ} {w:World}
omit hT hΓ in
theorem Ws {v:AV} {k:Nat} {o:az} (h:qB pre v=some (k,o)):v=.ptr k 0 o.es 0 []/\look k pre=some o/\o.row=false/\o.len=1/\(o.f 0).keys=[]:=by
 unfold qB at h
 split at h
 ·split at h
  ·split at h
   ·rename_i hc
    simp only[ax,Prod.mk.injEq]at h
    obtain⟨rfl,rfl⟩:=h
    simp only[Bool.and_eq_true,Bool.not_eq_true',beq_iff_eq,List.isEmpty_iff]at hc
    obtain⟨⟨⟨⟨h1,h2⟩,h3⟩,h4⟩,_⟩:=hc
    subst h2
    exact⟨rfl,‹_›,h1,h3,h4⟩
   ·simp at h
  ·simp at h
 ·simp at h
omit hT hΓ in
theorem Gg {st:aD} (h:bu c st D β w) (hpre:∀k o,look k pre=some o->∃o',look k st=some o'/\(o'=o\/o'={o with wr:=false})):
  ∀{l:List AV} {cs:List Value},aQ (aO c st β) w β l cs->bu c (cN (oV pre l) st) D β w/\cX (aO c st β) w β (aO c (cN (oV pre l) st) β) w β/\aQ (aO c (cN (oV pre l) st) β) w β (qz pre l) cs:=by
 intro l
 induction l generalizing st with
 |nil=>exact fun hc=>⟨h,cX.refl _ _ _,hc⟩
 |cons v l ih=>
  intro cs hc
  obtain⟨c1,c2,rfl,h1,h2⟩:=hc.split
  unfold oV qz
  cases hv:qB pre v with
  |none=>
   obtain⟨q1,q2,q3⟩:=ih h hpre h2
   exact⟨q1,q2,(h1.iE q2).cons q3⟩
  |some p=>
   obtain⟨k,o⟩:=p
   obtain⟨rfl,a2,a3,a4,a5⟩:=Ws hv
   obtain⟨o',b1,b2⟩:=hpre k o a2
   have b3:({o' with wr:=false}:az)={o with wr:=false}:=by rcases b2 with rfl|rfl<;>rfl
   obtain⟨f1,f2⟩:=h.freeze b1
   rw[b3]at f1 f2
   have hpre':∀k' o1,look k' pre=some o1->∃o2,look k' (put k {o with wr:=false} st)=some o2/\(o2=o1\/o2={o1 with wr:=false}):=fun k' o1 hk'=>by
    by_cases hkk:k'=k
    ·subst hkk
     rw[a2]at hk'
     simp only[ax]at hk'
     subst hk'
     exact⟨_,iT,.inr rfl⟩
    ·rw[fN hkk];exact hpre k' o1 hk'
   obtain⟨q1,q2,q3⟩:=ih f1 hpre' (h2.iE f2)
   simp only[cN]
   refine⟨q1,f2.trans q2,?_⟩
   cases h1 with
   |ptr hb hn=>
    cases hn
    rename_i b N
    obtain⟨b',N',cells,ty,e1,e2,e3,e4,e5,e6,e7,e8⟩:=f1.obj k _ iT _ hb
    rw[hb]at e1
    simp only[ax,Prod.mk.injEq]at e1
    obtain⟨rfl,rfl⟩:=e1
    obtain⟨ps,g1,g2,g3⟩:=e8 0 (by simp only[a4];omega)
    have g2:aQ _ w (if o.row=true then bt else β) [o.f 0] ps:=g2
    have g4:aQ (aO c (put k {o with wr:=false} st) β) w bt [o.f 0] ps:=zU g2 (by simp[bI,a5])
    have hin:gI (aO c (put k {o with wr:=false} st) β) w b 0 ps:=⟨cells,ty,_,e2,e7 rfl,fun i u hu=>by have:=g3 i u hu;rw[Nat.zero_mul,Nat.zero_add]at this;rw[Nat.zero_add];exact this⟩
    have hz:0*o.es+0=0:=aa
    rw[hz]
    exact(aQ.bn (g4.nY q2) (hin.mono q2.heap) .nil).cons q3
include hT hΓ in
theorem rY (h:bu c st D β w) (hpre:∀k o,look k pre=some o->look k st=some o) (hD:∀k,D k->D' k) {K:Nat} (hK:∀k,K<=k->k<K+cR->¬D k/\D' k)
  {ρ:Operand->Option AV} {ev:Operand->Value} (hρ:∀x v,ρ x=some v->bJ (aO c st β) w β v (ev x)) {o:Oper} {r:eu}
  (hr:fm T Γ K ρ pre o.op=some r) (need:r.need):kE P (execOp ev o) w (eW c st D' β w r.ct r.val):=by
 have hK0:¬D K/\D' K:=hK K aR (by simp[cR])
 have hint:∀k n,bJ (aO c st β) w β (.int k n) (.int k n):=fun k n=>bw.bP (.cz (.int .nil) rfl)
 have hbool:∀t,bJ (aO c st β) w β (.bool t) (.bool t):=fun t=>bw.bP (.cz (.bool .nil) rfl)
 obtain⟨dst,op,type,pos,after,guard⟩:=o
 cases op
 case call cl=>exact NY hT hΓ h hpre hD hK hρ rfl (by simpa [fm]using hr) need
 all_goals simp only[fm,reduceCtorEq]at hr
 case move x=>
  cases hx:ρ x with
  |none=>rw[hx]at hr;simp at hr
  |some v=>
   rw[hx]at hr
   simp only[cu,ax]at hr
   subst hr
   exact cO (x:=ev x) (w':=w) rfl (dP h hD (hρ x v hx))
 case assign x=>
  cases hx:ρ x with
  |none=>rw[hx]at hr;simp at hr
  |some v=>
   rw[hx]at hr
   simp only[cu,ax]at hr
   subst hr
   exact cO (x:=ev x) (w':=w) rfl (dP h hD (hρ x v hx))
 case pick cnd a b=>
  cases hc:ρ cnd with
  |none=>rw[hc]at hr;simp at hr
  |some cv=>
   rw[hc]at hr
   cases cv<;>simp only[reduceCtorEq]at hr
   case bool t=>
    have hev:=(hρ cnd _ hc).bool
    cases ha:ρ a with
    |none=>rw[ha]at hr;simp at hr
    |some av=>
     cases hb:ρ b with
     |none=>rw[ha,hb]at hr;cases av<;>simp at hr
     |some bv=>
      rw[ha,hb]at hr
      have hrun:(execOp ev {dst:=dst,op:=Op.pick cnd a b,type:=type,pos:=pos,after:=after,guard:=guard}).run P w=.ok (.value (if t then ev a else ev b)) w:=by
       simp[execOp,hev,asBool]
      cases t with
      |true=>
       have hr':r=⟨av,[],[]⟩:=by cases av<;>cases bv<;>simp[cu]at hr<;>exact hr.symm
       subst hr'
       exact cO hrun (dP h hD (by simpa using hρ a av ha))
      |false=>
       have hr':r=⟨bv,[],[]⟩:=by cases av<;>cases bv<;>simp[cu]at hr<;>exact hr.symm
       subst hr'
       exact cO hrun (dP h hD (by simpa using hρ b bv hb))
 case alloc t=>
  cases ht:look t T with
  |none=>rw[ht]at hr;simp at hr
  |some ti=>
   rw[ht]at hr
   simp only at hr
   split at hr
   ·simp at hr
   ·rename_i hc
    simp only[Bool.or_eq_true,beq_iff_eq,bne_iff_ne,ne_eq,not_or,Bool.not_eq_true,Decidable.not_not]at hc
    simp only[ax]at hr
    subst hr
    obtain⟨x,w',hrun,hR⟩:=ae9 hT h hD hK0.1 hK0.2 ht hc.1.1 hc.1.2 hc.2
    refine cO ?_ hR
    simp only[execOp,Sem.run_bind,hrun,Result.andThen_ok,Sem.run_pure]
 case box t x=>
  cases hx:ρ x with
  |none=>rw[hx]at hr;simp at hr
  |some v=>
   rw[hx]at hr
   simp only at hr
   split at hr
   ·simp at hr
   ·rename_i hc
    simp only[Bool.or_eq_true,beq_iff_eq,not_or,Bool.not_eq_true]at hc
    simp only[ax]at hr
    subst hr
    obtain⟨y,w',hrun,hR⟩:=ZT (P:=P) (t:=t) h hD hK0.1 hK0.2 ((hρ x v hx).one hc.2) hc.1
    refine cO ?_ hR
    simp only[execOp,Sem.run_bind,hrun,Result.andThen_ok,Sem.run_pure]
 case build t ps=>
  cases ht:look t T with
  |none=>rw[ht]at hr;simp at hr
  |some ti=>
   cases hp:jS ρ ps.toList with
   |none=>rw[ht,hp]at hr;simp at hr
   |some l=>
    rw[ht,hp]at hr
    simp only at hr
    split at hr
    ·simp at hr
    ·rename_i hc
     simp only[Bool.or_eq_true,Bool.not_eq_true',not_or,Bool.not_eq_false]at hc
     cases hs:qo T ti.desc ti.zero.kids l with
     |none=>rw[hs]at hr;simp at hr
     |some m=>
      rw[hs]at hr
      simp only[cu,ax]at hr
      subst hr
      obtain⟨y,hrun,hR⟩:=ahw hT (w:=w) ht (cH.parts hρ hp) hc.2 hs hc.1
      refine cO (x:=y) (w':=w) ?_ (dP h hD hR.bP)
      have e1:(Array.map (fun x:Nat×Operand=>match x with|(i,x)=>(i,ev x)) ps)=(List.map (fun p:Nat×Operand=>(p.1,ev p.2)) ps.toList).toArray:=by
       apply Array.ext';simp
      simp only[execOp,Sem.run_bind,e1,hrun,Result.andThen_ok,Sem.run_pure]
 case buildSlice t n ps=>
  cases ht:look t T with
  |none=>rw[ht]at hr;simp at hr
  |some ti=>
   cases hp:jS ρ ps.toList with
   |none=>rw[ht,hp]at hr;obtain⟨d,_,_,_⟩:=ti;cases d<;>simp at hr
   |some l=>
    rw[ht,hp]at hr
    obtain⟨d,sz,by',z⟩:=ti
    cases d<;>simp only[reduceCtorEq]at hr
    case slice e=>
     cases he:look e T with
     |none=>rw[he]at hr;simp at hr
     |some ei=>
      rw[he]at hr
      simp only at hr
      split at hr
      ·simp at hr
      ·rename_i hc
       simp only[Bool.or_eq_true,beq_iff_eq,bne_iff_ne,ne_eq,not_or,Bool.not_eq_true,Decidable.not_not]at hc
       cases hs:qK ei.size (List.replicate n ei.zero) l with
       |none=>rw[hs]at hr;simp at hr
       |some m=>
        rw[hs]at hr
        simp only at hr
        cases hf:fh pre m with
        |none=>rw[hf]at hr;simp at hr
        |some m'=>
         rw[hf]at hr
         simp only[ax]at hr
         subst hr
         obtain⟨y,w',hrun,hR⟩:=UM hT h hpre hD hK0.1 hK0.2 ht rfl he hc.1.1 hc.1.2 hc.2 (cH.parts hρ hp) hs hf need
         refine cO ?_ hR
         have e1:(Array.map (fun x:Nat×Operand=>match x with|(i,x)=>(i,ev x)) ps)=(List.map (fun p:Nat×Operand=>(p.1,ev p.2)) ps.toList).toArray:=by
          apply Array.ext';simp
         simp only[execOp,Sem.run_bind,e1,hrun,Result.andThen_ok,Sem.run_pure]
 case load t a=>
  cases ht:look t T with
  |none=>rw[ht]at hr;simp at hr
  |some ti=>
   cases ha:ρ a with
   |none=>rw[ht,ha]at hr;simp at hr
   |some p=>
    rw[ht,ha]at hr
    simp only at hr
    obtain⟨e1,y,hrun,hR⟩:=KZ hT h hpre ht (hρ a p ha) hr need
    refine cO (x:=y) (w':=w) ?_ (by rw[e1];exact dP h hD hR.bP)
    simp only[execOp,Sem.run_bind,hrun,Result.andThen_ok,Sem.run_pure]
 case store t a x=>
  cases ht:look t T with
  |none=>rw[ht]at hr;simp at hr
  |some ti=>
   cases ha:ρ a with
   |none=>rw[ht,ha]at hr;simp at hr
   |some p=>
    cases hx:ρ x with
    |none=>rw[ht,ha,hx]at hr;simp at hr
    |some v=>
     rw[ht,ha,hx]at hr
     simp only at hr
     obtain⟨w',hrun,hR⟩:=aff hT h hpre hD ht (hρ a p ha) (hρ x v hx) hr need
     refine .inr (.inl ⟨w',?_,hR⟩)
     simp only[execOp,Sem.run_bind,hrun,Result.andThen_ok,Sem.run_pure]
 case nilCheck x=>
  cases hx:ρ x with
  |none=>rw[hx]at hr;simp at hr
  |some v=>
   rw[hx]at hr
   have hv:=hρ x v hx
   cases v<;>simp only[cu,ax,reduceCtorEq]at hr
   case ptr=>
    subst hr
    obtain⟨b,N,_,he⟩:=hv.ptr
    refine cO (x:=ev x) (w':=w) ?_ (dP h hD hv)
    simp[execOp,he]
   case bn=>
    subst hr
    obtain⟨b,o,ps,he,_⟩:=hv.bn
    refine cO (x:=ev x) (w':=w) ?_ (dP h hD hv)
    simp[execOp,he]
   case func=>
    subst hr
    obtain⟨vs,he,_⟩:=hv.func
    refine cO (x:=ev x) (w':=w) ?_ (dP h hD hv)
    simp[execOp,he]
 case binOp op t x y ty=>
  cases hx:ρ x with
  |none=>rw[hx]at hr;simp at hr
  |some a=>
   cases hy:ρ y with
   |none=>rw[hx,hy]at hr;simp at hr
   |some b=>
    rw[hx,hy]at hr
    simp only at hr
    obtain⟨e1,z,hrun,hR⟩:=Kr hT (op:=op) (t:=t) (t':=t) (x:=x) (y:=y) (hρ x a hx) (hρ y b hy) hr need
    refine cO (x:=z) (w':=w) ?_ (by rw[e1];exact dP h hD hR.bP)
    simp only[execOp]
    rw[Sem.run_bind,hrun]
    rfl
 case unOp op t x=>
  cases hx:ρ x with
  |none=>rw[hx]at hr;cases op<;>simp at hr
  |some v=>
   rw[hx]at hr
   have hv:=hρ x v hx
   cases op<;>cases v<;>simp only[cu,ax,reduceCtorEq]at hr
   case not.bool b=>
    subst hr
    have:=hv.bool
    refine cO (x:=.bool (!b)) (w':=w) ?_ (dP h hD (hbool _))
    simp[execOp,this,Op.unary]
   case neg.int k n=>
    subst hr
    have:=hv.int
    refine cO (x:=.int k (k.wrap (0-n))) (w':=w) ?_ (dP h hD (hint _ _))
    simp[execOp,this,Op.unary,Op.intArith]
   case xor.int k n=>
    subst hr
    have:=hv.int
    refine cO (x:=.int k (k.wrap ((BitVec.ofInt k.bits (if k.signed then-1 else k.max)^^^BitVec.ofInt k.bits n).toNat:Int))) (w':=w) ?_ (dP h hD (hint _ _))
    simp only[execOp,this,Op.unary,Op.intBits]
    rfl
 case convert s d x=>
  cases hs:look s T with
  |none=>rw[hs]at hr;simp at hr
  |some si=>
   cases hd:look d T with
   |none=>rw[hs,hd]at hr;obtain⟨sd,_,_,_⟩:=si;cases sd<;>simp at hr
   |some di=>
    rw[hs,hd]at hr
    obtain⟨sd,_,_,_⟩:=si
    obtain⟨dd,_,_,_⟩:=di
    cases sd<;>cases dd<;>try (simp only[reduceCtorEq]at hr;done)
    case int.int k1 k=>
     cases hx:ρ x with
     |none=>rw[hx]at hr;simp at hr
     |some v=>
      rw[hx]at hr
      have hv:=hρ x v hx
      cases v<;>simp only[cu,ax,reduceCtorEq]at hr
      case int k2 n=>
       subst hr
       have hev:=hv.int
       have hus:=(hT _ _ hs).dh
       have hud:=(hT _ _ hd).dh
       refine cO (x:=.int k (k.wrap n)) (w':=w) ?_ (dP h hD (hint _ _))
       simp[execOp,hev,convert,run_underlying hus,run_underlying hud,Conv.intToInt]
 case sliceToArrayPointer t x=>
  cases ht:look t T with
  |none=>rw[ht]at hr;simp at hr
  |some ti=>
   cases hx:ρ x with
   |none=>rw[ht,hx]at hr;obtain⟨d,_,_,_⟩:=ti;cases d<;>simp at hr
   |some v=>
    rw[ht,hx]at hr
    have hv:=hρ x v hx
    obtain⟨d,sz,by',z⟩:=ti
    cases d<;>try (simp only[reduceCtorEq]at hr;done)
    case array m e=>
     cases v<;>try (simp only[reduceCtorEq]at hr;done)
     case ak es n f=>
      simp only at hr
      cases he:look e T with
      |none=>rw[he]at hr;simp at hr
      |some ei=>
       rw[he]at hr
       simp only at hr
       split at hr
       ·rename_i hc
        simp only[Bool.and_eq_true,beq_iff_eq,bne_iff_ne,ne_eq]at hc
        simp only[ax]at hr
        subst hr
        obtain⟨zv,hrun,hR⟩:=afK hT h hD ht rfl hv hc.2 need
        refine cO ?_ hR
        simp only[execOp,Sem.run_bind,hrun,Result.andThen_ok,Sem.run_pure]
       ·simp at hr
 case makeSlice t l cp=>
  cases ht:look t T with
  |none=>rw[ht]at hr;simp at hr
  |some ti=>
   cases hl:ρ l with
   |none=>rw[ht,hl]at hr;obtain⟨d,_,_,_⟩:=ti;cases d<;>simp at hr
   |some lv=>
    cases hc:ρ cp with
    |none=>rw[ht,hl,hc]at hr;obtain⟨d,_,_,_⟩:=ti;cases d<;>cases lv<;>(try (rename_i k _;cases k))<;>simp at hr
    |some cv=>
     rw[ht,hl,hc]at hr
     obtain⟨d,sz,by',z⟩:=ti
     cases d<;>try (simp only[reduceCtorEq]at hr;done)
     case slice e=>
      have hlv:=hρ l lv hl
      have hcv:=hρ cp cv hc
      cases lv<;>try (simp only[reduceCtorEq]at hr;done)
      case int k n=>
       cases k<;>try (simp only[reduceCtorEq]at hr;done)
       case i64=>
        cases cv<;>try (simp only[reduceCtorEq]at hr;done)
        case int k m=>
         cases k<;>try (simp only[reduceCtorEq]at hr;done)
         case i64=>
          simp only at hr
          cases he:look e T with
          |none=>rw[he]at hr;simp at hr
          |some ei=>
           rw[he]at hr
           simp only at hr
           split at hr
           ·simp at hr
           ·rename_i hcc
            simp only[Bool.or_eq_true,beq_iff_eq,bne_iff_ne,ne_eq,not_or,Bool.not_eq_true,Decidable.not_not]at hcc
            simp only[ax]at hr
            subst hr
            obtain⟨x,w',hrun,hR,_⟩:=Kh hT h hD hK0.1 hK0.2 ht rfl he hcc.1.1 hcc.1.2 hcc.2 need.1 need.2.1 need.2.2.1 need.2.2.2
            refine cO ?_ hR
            simp only[execOp,Sem.run_bind,hlv.int,hcv.int,hrun,Result.andThen_ok,Sem.run_pure]
 case slice t x lo hi mx=>
  cases ht:look t T with
  |none=>rw[ht]at hr;simp at hr
  |some ti=>
   cases hx:ρ x with
   |none=>rw[ht,hx]at hr;obtain⟨d,_,_,_⟩:=ti;cases d<;>simp at hr
   |some v=>
    rw[ht,hx]at hr
    obtain⟨d,sz,by',z⟩:=ti
    cases d<;>simp only[reduceCtorEq]at hr
    case slice e=>
     cases he:look e T with
     |none=>rw[he]at hr;simp at hr
     |some ei=>
      cases hn:lenOf v with
      |none=>rw[he,hn]at hr;simp at hr
      |some n=>
       rw[he,hn]at hr
       simp only at hr
       cases hl:cK ρ 0 lo with
       |none=>rw[hl]at hr;simp at hr
       |some l=>
        cases hh:cK ρ n hi with
        |none=>rw[hl,hh]at hr;simp at hr
        |some hv=>
         rw[hl,hh]at hr
         simp only at hr
         cases hm:cK ρ hv mx with
         |none=>rw[hm]at hr;simp at hr
         |some m=>
          rw[hm]at hr
          simp only at hr
          split at hr
          ·simp at hr
          ·rename_i hmx
           simp only[Bool.and_eq_true,not_and,Bool.not_eq_true]at hmx
           cases hs:ry ei.size v l.toNat hv.toNat with
           |none=>rw[hs]at hr;simp at hr
           |some u=>
            rw[hs]at hr
            simp only[ax]at hr
            subst hr
            have hvt:v.isTuple=false:=by cases v<;>first|rfl|simp[lenOf]at hn
            obtain⟨y,hrun,hR⟩:=acV hT ht rfl he ((hρ x v hx).one hvt) hρ hn hl hh hm need.1 need.2.1 need.2.2.1 need.2.2.2 (fun h1=>by
             have:=hmx h1
             cases hi<;>simp_all) u hs
            refine cO (x:=y) (w':=w) ?_ (dP h hD hR.bP)
            simp only[execOp,Sem.run_bind,hrun,Result.andThen_ok,Sem.run_pure]
    case array n e=>
     cases mx with
     |some m=>simp at hr
     |none=>
      simp only at hr
      cases he:look e T with
      |none=>rw[he]at hr;simp at hr
      |some ei=>
       cases hl:cK ρ 0 lo with
       |none=>rw[he,hl]at hr;simp at hr
       |some a=>
        cases hh:cK ρ n hi with
        |none=>rw[he,hl,hh]at hr;simp at hr
        |some b=>
         rw[he,hl,hh]at hr
         simp only at hr
         obtain⟨y,hrun,hR⟩:=ZH hT h hpre hD ht rfl he (hρ x v hx) hρ hl hh hr need
         refine cO (x:=y) (w':=w) ?_ hR
         simp only[execOp,Sem.run_bind,Option.map_none,hrun,Result.andThen_ok,Sem.run_pure]
 case fieldAddr s x i=>
  cases hs:look s T with
  |none=>rw[hs]at hr;simp at hr
  |some ti=>
   cases hx:ρ x with
   |none=>rw[hs,hx]at hr;simp at hr
   |some p=>
    rw[hs,hx]at hr
    simp only at hr
    cases hf:nr ti.desc i with
    |none=>rw[hf]at hr;simp at hr
    |some fd=>
     rw[hf]at hr
     simp only at hr
     have hp:=hρ x p hx
     cases p<;>simp only[reduceCtorEq]at hr
     case bn v=>
      cases hk:jb T v i fd.offset fd.type with
      |none=>rw[hk]at hr;simp at hr
      |some k=>
       rw[hk]at hr
       simp only[cu,ax]at hr
       subst hr
       obtain⟨b,o,he,hR⟩:=Fs hk hp
       obtain⟨fi,hfi,h0⟩:∃fi,look fd.type T=some fi/\fi.size≠0:=by
        obtain⟨_,_,ps,_,hps,_⟩:=hp.bn
        obtain⟨fi,_,_,_,q1,_,_,_,_,_,_,_,q2,_⟩:=Ag hk hps
        exact⟨fi,q1,q2⟩
       refine cO (w':=w) ?_ (dP h hD hR.bP)
       simp only[execOp,Sem.run_bind,he,Hl hT hs hf hfi h0,Result.andThen_ok,Sem.run_pure]
     case ptr k idx es off path=>
      cases hfi:look fd.type T with
      |none=>rw[hfi]at hr;simp at hr
      |some fi=>
       rw[hfi]at hr
       simp only at hr
       split at hr
       ·simp at hr
       ·rename_i h0
        simp only[cu,ax]at hr
        subst hr
        obtain⟨b,N,hb,he⟩:=hp.ptr
        refine cO (x:=.pointer (some ⟨b,idx*es+off+fd.offset,none⟩)) (w':=w) ?_ (dP h hD (bw.bP (.cz ?_ rfl)))
        ·simp only[execOp,Sem.run_bind,he,Hl hT hs hf hfi (by simpa using h0),Result.andThen_ok,Sem.run_pure]
        ·rw[Nat.add_assoc];exact .ptr hb .nil
 case field s x i=>
  cases hs:look s T with
  |none=>rw[hs]at hr;simp at hr
  |some ti=>
   cases hx:ρ x with
   |none=>rw[hs,hx]at hr;simp at hr
   |some v=>
    rw[hs,hx]at hr
    simp only at hr
    cases hf:nr ti.desc i with
    |none=>rw[hf]at hr;simp at hr
    |some fd=>
     rw[hf]at hr
     simp only at hr
     cases hk:jb T v i fd.offset fd.type with
     |none=>rw[hk]at hr;simp at hr
     |some k=>
      rw[hk]at hr
      simp only[cu,ax]at hr
      subst hr
      have hvt:v.isTuple=false:=by
       cases v<;>first|rfl|(simp[jb,AV.kids]at hk)
      obtain⟨y,hrun,hR⟩:=aeC hT (w:=w) hs ((hρ x v hx).one hvt) hf hk
      refine cO (x:=y) (w':=w) ?_ (dP h hD hR.bP)
      simp only[execOp,Sem.run_bind,hrun,Result.andThen_ok,Sem.run_pure]
 case indexAddr t x ix=>
  cases ht:look t T with
  |none=>rw[ht]at hr;simp at hr
  |some ti=>
   cases hx:ρ x with
   |none=>rw[ht,hx]at hr;obtain⟨d,_,_,_⟩:=ti;cases d<;>simp at hr
   |some p=>
    cases hi:ρ ix with
    |none=>rw[ht,hx,hi]at hr;obtain⟨d,_,_,_⟩:=ti;cases d<;>simp at hr
    |some iv=>
     rw[ht,hx,hi]at hr
     obtain⟨d,sz,by',z⟩:=ti
     have hp:=hρ x p hx
     have hiv:=hρ ix iv hi
     cases d<;>try (simp only[reduceCtorEq]at hr;done)
     case array n e=>
      cases iv<;>simp only[reduceCtorEq]at hr
      case int kd i=>
       have hie:=hiv.int
       cases he:look e T with
       |none=>rw[he]at hr;simp at hr
       |some ei=>
        rw[he]at hr
        simp only at hr
        split at hr
        ·simp at hr
        ·rename_i h0
         cases p<;>simp only[reduceCtorEq]at hr
         case bn v=>
          cases hk:jb T v i.toNat (i.toNat*ei.size) e with
          |none=>rw[hk]at hr;simp at hr
          |some k=>
           rw[hk]at hr
           simp only[ax]at hr
           subst hr
           obtain⟨b,o,hev,hR⟩:=Fs hk hp
           refine cO (w':=w) ?_ (dP h hD hR.bP)
           simp only[execOp,Sem.run_bind,hev,hie,Ko hT ht rfl he need.1 need.2,Result.andThen_ok,Sem.run_pure]
         case ptr k idx es off path=>
          simp only[ax]at hr
          subst hr
          obtain⟨b,N,hb,hev⟩:=hp.ptr
          refine cO (x:=.pointer (some ⟨b,idx*es+off+i.toNat*ei.size,none⟩)) (w':=w) ?_ (dP h hD (bw.bP (.cz ?_ rfl)))
          ·simp only[execOp,Sem.run_bind,hev,hie,Ko hT ht rfl he need.1 need.2,Result.andThen_ok,Sem.run_pure]
          ·rw[Nat.add_assoc];exact .ptr hb .nil
     case slice e=>
      cases iv<;>simp only[reduceCtorEq]at hr
      case int kd i=>
       have hie:=hiv.int
       cases he:look e T with
       |none=>rw[he]at hr;simp at hr
       |some ei=>
        rw[he]at hr
        simp only at hr
        split at hr
        ·simp at hr
        ·rename_i h0
         cases hel:elemAt pre ei.size p i.toNat with
         |none=>rw[hel]at hr;simp at hr
         |some q=>
          obtain⟨q,nd⟩:=q
          rw[hel]at hr
          simp only[ax]at hr
          subst hr
          obtain⟨y,hrun,hR⟩:=RQ hT h hpre (kd:=kd) ht rfl he hp need.1 hel need.2
          refine cO (x:=y) (w':=w) ?_ (dP h hD hR.bP)
          simp only[execOp,Sem.run_bind,hie,hrun,Result.andThen_ok,Sem.run_pure]
 case index t x ix=>
  cases ht:look t T with
  |none=>rw[ht]at hr;simp at hr
  |some ti=>
   cases hx:ρ x with
   |none=>rw[ht,hx]at hr;obtain⟨d,_,_,_⟩:=ti;cases d<;>simp at hr
   |some v=>
    cases hi:ρ ix with
    |none=>rw[ht,hx,hi]at hr;obtain⟨d,_,_,_⟩:=ti;cases d<;>simp at hr
    |some iv=>
     rw[ht,hx,hi]at hr
     obtain⟨d,sz,by',z⟩:=ti
     have hiv:=hρ ix iv hi
     cases d<;>try (simp only[reduceCtorEq]at hr;done)
     case array n e=>
      cases iv<;>simp only[reduceCtorEq]at hr
      case int kd i=>
       have hie:=hiv.int
       cases he:look e T with
       |none=>rw[he]at hr;simp at hr
       |some ei=>
        rw[he]at hr
        simp only at hr
        cases hk:jb T v i.toNat (i.toNat*ei.size) e with
        |none=>rw[hk]at hr;simp at hr
        |some k=>
         rw[hk]at hr
         simp only[ax]at hr
         subst hr
         have hvt:v.isTuple=false:=by
          cases v<;>first|rfl|(simp[jb,AV.kids]at hk)
         obtain⟨y,hrun,hR⟩:=acB hT (w:=w) (kd:=kd) ht rfl he ((hρ x v hx).one hvt) hk need.1 need.2
         refine cO (x:=y) (w':=w) ?_ (dP h hD hR.bP)
         simp only[execOp,Sem.run_bind,hie,hrun,Result.andThen_ok,Sem.run_pure]
 case extract x i=>
  cases hx:ρ x with
  |none=>rw[hx]at hr;simp at hr
  |some v=>
   rw[hx]at hr
   cases v<;>simp only[reduceCtorEq]at hr
   case tuple l=>
    cases hl:l[i]? with
    |none=>rw[hl]at hr;simp at hr
    |some v=>
     rw[hl]at hr
     simp only[cu,ax]at hr
     subst hr
     obtain⟨vs,hev,hvs⟩:=hρ x _ hx
     obtain⟨y,hy,hR⟩:=hvs.get i v hl
     refine cO (x:=y) (w':=w) ?_ (dP h hD hR.bP)
     simp[execOp,hev,Instr.extract,hy]
 case makeFunc fn first caps=>
  cases fn<;>simp only[reduceCtorEq]at hr
  case func f=>
   cases hc:eM ρ caps.toList with
   |none=>rw[hc]at hr;cases first.toList<;>simp at hr
   |some l=>
    rw[hc]at hr
    cases hf:first.toList with
    |cons a b=>rw[hf]at hr;simp at hr
    |nil=>
     rw[hf]at hr
     simp only at hr
     split at hr
     ·rename_i hall
      simp only[Bool.and_eq_true]at hall
      obtain⟨hall,hall2⟩:=hall
      simp only[ax]at hr
      subst hr
      have hfe:first=#[]:=by apply Array.ext';simpa using hf
      subst hfe
      have hcaps:=(mW hρ hc).Fy hall
      obtain⟨q1,q2,q3⟩:=Gg (pre:=pre) h (fun k o hk=>⟨o,hpre k o hk,.inl rfl⟩) hcaps
      refine cO (x:=.func (.func f) #[] (List.map ev caps.toList).toArray) (w':=w) ?_ ⟨β,q1.lK hD,q2,bw.bP (.cz (.func q3 hall2 .nil) rfl)⟩
      have e1:Array.map ev caps=(List.map ev caps.toList).toArray:=by apply Array.ext';simp
      simp[execOp,Instr.makeFunc,e1]
     ·simp at hr
theorem bJ.bE {M:Nat->Prop} {v:AV} {x:Value} (h:bJ M w β v x):bJ M w β (Am.bE v) x:=by
 cases v with
 |eB b es n f=>
  obtain⟨cs,h1,h2⟩:=bJ.one h rfl
  cases h1 with
  |eB g0 g1 g2 g3 g4 g5 g6=>
   cases g6
   exact bw.bP ⟨_,.ak g1 g2 g3 g4 g5 .nil,h2⟩
 |bS n v=>obtain⟨_,_,_,_,h1⟩:=h.bS;exact h1.bP
 |_=>exact h
theorem SG {ρ:Operand->Option AV} {op:Op} {v:AV} (h:oN T ρ op=some v):∃o t x y u b es n f z,op=.binOp o t x y u/\ρ x=some (.eB b es n f)/\ρ y=some .nil/\isSlice T t=true/\v=.bool z/\((o=.eql/\z=b)\/(o=.neq/\z=!b)):=by
 cases op<;>simp only[oN,reduceCtorEq]at h
 case binOp o t x y u=>
  cases hx:ρ x with
  |none=>rw[hx]at h;simp at h
  |some a=>
   cases hy:ρ y with
   |none=>rw[hx,hy]at h;simp at h
   |some d=>
    rw[hx,hy]at h
    simp only at h
    cases hf:EN a d with
    |none=>rw[hf]at h;simp at h
    |some b=>
     cases hs:isSlice T t with
     |false=>rw[hf,hs]at h;simp at h
     |true=>
      rw[hf,hs]at h
      have hab:∃es n f,a=.eB b es n f/\d=.nil:=by
       cases a<;>simp only[EN,reduceCtorEq]at hf
       case eB b' es n f=>
        cases d<;>simp only[reduceCtorEq,ax]at hf
        case nil=>subst hf;exact⟨es,n,f,rfl,rfl⟩
      obtain⟨es,n,f,rfl,rfl⟩:=hab
      cases o<;>simp only[reduceCtorEq,ax]at h
      case eql=>exact⟨_,t,x,y,u,b,es,n,f,b,rfl,hx,hy,hs,h.symm,.inl ⟨rfl,rfl⟩⟩
      case neq=>exact⟨_,t,x,y,u,b,es,n,f,!b,rfl,hx,hy,hs,h.symm,.inr ⟨rfl,rfl⟩⟩
theorem MU {f:Nat->AV}:∀{n:Nat} {l:List UInt8},bytesOf f n=some l->∃ns:List Int,ns.length=n/\(∀i,i<n->∃b,ns[i]?=some b/\f i=.int .u8 b)/\(ns.foldl (fun r n=>r.push (UInt8.ofNat n.toNat)) ByteArray.empty)=⟨l.toArray⟩
 |0,l,h=>by
  simp only[bytesOf,ax]at h
  subst h
  exact⟨[],rfl,fun i hi=>aa,rfl⟩
 |n+1,l,h=>by
  simp only[bytesOf]at h
  split at h
  ·rename_i l' b h1 h2
   simp only[ax]at h
   subst h
   obtain⟨ns,e1,e2,e3⟩:=MU h1
   refine⟨ns++[b],by simp[e1],fun i hi=>?_,?_⟩
   ·by_cases hin:i<n
    ·obtain⟨b',q1,q2⟩:=e2 i hin
     exact⟨b',by rw[List.getElem?_append_left aa];exact q1,q2⟩
    ·have:i=n:=aa
     subst this
     exact⟨b,by rw[List.getElem?_append_right aa,e1];simp,h2⟩
   ·rw[List.foldl_append,e3]
    simp[ByteArray.push]
  ·simp at h
theorem ads {w:World} {M:Nat->Prop} {f:Nat->AV} {n cap:Nat} {l:List UInt8} {base:Option Addr} {cf:Nat->List Value} (hl:bytesOf f n=some l)
  (g1:n=0\/∃b o,base=some ⟨b,o,none⟩/\∀i,i<n->w.rangeAt b (o+i*1) (cf i)) (g3:base=none->n=0) (g4:∀i,i<n->(cf i).length=1/\aQ M w bt [f i] (cf i)):
  (Conv.bytesToString (.slice base n cap)).run P w=.ok (.string ⟨l.toArray⟩) w:=by
 obtain⟨ns,e1,e2,e3⟩:=MU hl
 cases base with
 |none=>
  have:=g3 rfl
  subst this
  simp only[bytesOf,ax]at hl
  subst hl
  rfl
 |some a=>
  rw[run_bytesToString w a n cap ns,e3]
  have hcell:∀j v,(ns.map (Value.int .u8))[j]?=some v->w.cell? (a.add j)=some v:=by
   intro j v hv
   rw[List.getElem?_map,Option.map_eq_some_iff]at hv
   obtain⟨b,hb,rfl⟩:=hv
   have hj:j<n:=by
    have:=(List.getElem?_eq_some_iff.1 hb).1
    omega
   rcases g1 with g1|⟨bl,o,hbo,g1⟩
   ·omega
   simp only[ax]at hbo
   subst hbo
   obtain⟨b',q1,q2⟩:=e2 j hj
   rw[hb]at q1
   simp only[ax]at q1
   subst q1
   obtain⟨q3,q4⟩:=g4 j hj
   rw[q2]at q4
   have hcf:cf j=[.int .u8 b]:=by
    revert q4
    generalize cf j=z
    intro q4
    cases q4 with|int h=>cases h;rfl
   have:=g1 j hj
   rw[hcf]at this
   have:=this 0 _ rfl
   rw[Addr.add_mid]
   simpa using this
  have:=run_loadCells_list (P:=P) (w:=w) a (ns.map (Value.int .u8)) hcell
  rw[List.length_map,e1]at this
  exact this
include hT in
theorem aez (h:bu c st D β w) (hpre:∀k o,look k pre=some o->look k st=some o) (hD:∀k,D k->D' k) {ρ:Operand->Option AV} {ev:Operand->Value} (hρ:∀x v,ρ x=some v->bJ (aO c st β) w β v (ev x)) {o:Oper} {r:eu}
  (hev:∀v,ev (.const v)=v) (hr:oQ T pre ρ o.op=some r) (need:r.need):kE P (execOp ev o) w (eW c st D' β w r.ct r.val):=by
 obtain⟨dst,op,type,pos,after,guard⟩:=o
 cases op<;>simp only[oQ,reduceCtorEq]at hr
 case binOp o t x y u=>
  have hbool:∀t,bJ (aO c st β) w β (.bool t) (.bool t):=fun t=>bw.bP (.cz (.bool .nil) rfl)
  split at hr
  ·rename_i a b ha hb
   have ea:=(hρ x _ ha).str
   have eb:=(hρ y _ hb).str
   split at hr
   ·split at hr
    ·rename_i hl
     have hl:=Nat.le_of_ble_eq_true hl
     simp only[cu,ax]at hr
     subst hr
     refine cO (x:=.string ⟨(a++b).toArray⟩) (w':=w) ?_ (dP h hD (bw.bP (.cz (.str .nil) rfl)))
     simp only[execOp,ea,eb,eqGuard_at_string,binOp_string_add]
     simp only[Sem.run_bind,Sem.run_pure,Result.andThen_ok,run_string_add_lists w a b aa aa]
    ·simp at hr
   ·simp only[cu,ax]at hr
    subst hr
    refine cO (x:=.bool (a==b)) (w':=w) ?_ (dP h hD (hbool _))
    simp only[execOp,ea,eb,eqGuard_at_string,binOp_string_eql,ByteArray.toList_mk]
    simp
   ·simp only[cu,ax]at hr
    subst hr
    refine cO (x:=.bool (!(a==b))) (w':=w) ?_ (dP h hD (hbool _))
    simp only[execOp,ea,eb,eqGuard_at_string,binOp_string_neq,ByteArray.toList_mk]
    simp
   ·simp at hr
  ·simp at hr
 case convert s d x=>
  split at hr
  ·rename_i e _ _ _ _ _ _ v hs hd hx
   split at hr
   ·rename_i he
    split at hr
    ·rename_i n f hra
     split at hr
     ·rename_i l hl
      simp only[cu,ax]at hr
      subst hr
      obtain⟨base,cap,cf,hev',g1,g2,g3,g4⟩:=o8 h hpre aa (hρ x _ hx) hra
      have hus:=(hT _ _ hs).dh
      have hud:=(hT _ _ hd).dh
      have hue:=(hT _ _ he).dh
      refine cO (x:=.string ⟨l.toArray⟩) (w':=w) ?_ (dP h hD (bw.bP (.cz (.str .nil) rfl)))
      simp only[execOp,hev',Sem.run_bind,run_convert_bytes_string w s d e base n cap hus hue hud]
      rw[ads hl g1 g3 g4]
      rfl
     ·simp at hr
    ·simp at hr
   ·simp at hr
  ·simp at hr
 case index t x ix=>
  cases x<;>(try simp only[reduceCtorEq]at hr)
  case const v=>
   cases v<;>(try simp only[reduceCtorEq]at hr)
   case string s=>
    cases hi:ρ ix with
    |none=>rw[hi]at hr;simp at hr
    |some iv=>
     cases ht:look t T with
     |none=>rw[hi,ht]at hr;cases iv<;>simp at hr
     |some ti=>
      rw[hi,ht]at hr
      have hiv:=hρ ix iv hi
      cases iv<;>simp only[reduceCtorEq]at hr
      case int kd i=>
       have hie:=hiv.int
       split at hr
       ·rename_i hs
        simp only[ax]at hr
        subst hr
        have need:0<=i/\i<s.size:=need
        have hu:P.underlying t=some .string:=by
         have:=(hT _ _ ht).dh
         cases hd:ti.desc<;>rw[hd]at hs this<;>simp only[isString,Bool.false_eq_true]at hs
         case string=>exact this
        have hb:(m9 s i.toNat:Int)=((s[i.toNat]'aa).toNat:Int):=by
         unfold m9
         have hlt:i.toNat<s.data.size:=by have:s.size=s.data.size:=rfl;omega
         rw[Array.getElem?_eq_getElem hlt]
         rfl
        refine cO (x:=.int .u8 (m9 s i.toNat)) (w':=w) ?_ (dP h hD (bw.bP (.cz (.int .nil) rfl)))
        simp only[execOp,hie,hev]
        rw[Sem.run_bind,run_index_string w t s kd i hu,dif_pos need,hb]
        rfl
       ·simp at hr
theorem Ym {K:Nat} {ρ:Operand->Option AV} {op:Op} {r:eu} (hc:tX T ρ pre op=true) (hr:fm T Γ K ρ pre op=some r):r.need:=by
 cases op<;>simp only[tX,Bool.false_eq_true]at hc
 case load t a=>
  split at hc
  ·rename_i k idx es off path ha
   split at hc
   ·rename_i o ho
    have hlt:=Nat.blt_eq.mp hc
    simp only[fm,ha]at hr
    split at hr
    ·rename_i ti p ht hp
     simp only[ax]at hp
     subst hp
     simp only[lE,ho]at hr
     split at hr
     ·split at hr
      ·split at hr
       ·simp only[ax]at hr;subst hr;exact hlt
       ·simp at hr
      ·simp at hr
     ·simp at hr
    ·simp at hr
   ·simp at hc
  ·simp at hc
 case store t a x=>
  split at hc
  ·rename_i k idx es off path ha
   split at hc
   ·rename_i o ho
    have hlt:=Nat.blt_eq.mp hc
    simp only[fm,ha]at hr
    split at hr
    ·rename_i ti p v ht hp hv
     simp only[ax]at hp
     subst hp
     simp only[xh,ho]at hr
     (repeat' split at hr)<;>first|(simp only[ax]at hr;subst hr;exact hlt)|simp at hr
    ·simp at hr
   ·simp at hc
  ·simp at hc
 case indexAddr t x ix=>
  split at hc
  ·rename_i n e _ _ _ _ i ht hi
   have hlt:=of_decide_eq_true hc
   cases hx:ρ x with
   |none=>simp only[fm,ht,hi,hx]at hr;simp at hr
   |some p=>
    simp only[fm,ht,hi,hx]at hr
    split at hr
    ·split at hr
     ·simp at hr
     ·split at hr
      ·split at hr
       ·simp only[ax]at hr;subst hr;exact hlt
       ·simp at hr
      ·simp only[ax]at hr;subst hr;exact hlt
      ·simp at hr
    ·simp at hr
  ·rename_i e _ _ _ v _ i ht hv hi
   split at hc
   ·rename_i n hn
    simp only[Bool.and_eq_true,bz,Nat.blt_eq]at hc
    simp only[fm,ht,hi,hv]at hr
    split at hr
    ·rename_i ti hti
     split at hr
     ·simp at hr
     ·split at hr
      ·rename_i r' nd hel
       simp only[ax]at hr
       subst hr
       refine⟨hc.1,?_⟩
       unfold elemAt at hel
       unfold lenOf at hn
       have hc2:=hc.2
       (repeat' split at hel)<;>simp_all<;>(obtain⟨_,rfl⟩:=hel;exact hc2)
      ·simp at hr
    ·simp at hr
   ·simp at hc
  ·simp at hc
 case index t x ix=>
  split at hc
  ·rename_i n e _ _ _ _ i ht hi
   have hlt:=of_decide_eq_true hc
   cases hx:ρ x with
   |none=>simp only[fm,ht,hi,hx]at hr;simp at hr
   |some p=>
    simp only[fm,ht,hi,hx]at hr
    split at hr
    ·split at hr
     ·simp only[ax]at hr;subst hr;exact hlt
     ·simp at hr
    ·simp at hr
  ·simp at hc
 case slice t x lo hi mx=>
  split at hc
  ·rename_i v hv
   split at hc
   ·rename_i len hlen
    split at hc
    ·rename_i l h hl hh
     split at hc
     ·rename_i m hm
      have hlt:=of_decide_eq_true hc
      cases ht:look t T with
      |none=>simp only[fm,hv,ht]at hr;simp at hr
      |some ti0=>
       obtain⟨dd,_,_,_⟩:=ti0
       cases dd<;>try (simp only[fm,hv,ht]at hr;simp at hr;done)
       case array n e=>
        simp only[fm,hv,ht]at hr
        exfalso
        split at hr
        ·split at hr
         ·unfold Ai at hr
          cases v<;>simp[lenOf]at hlen<;>simp at hr
         ·simp at hr
        ·simp at hr
       case slice e=>
        cases he:look e T with
        |none=>simp only[fm,hv,ht,he]at hr;simp at hr
        |some ti=>
         simp only[fm,hv,ht,he,hlen,hl,hh,hm]at hr
         split at hr
         ·simp at hr
         ·split at hr
          ·simp only[ax]at hr;subst hr;exact hlt
          ·simp at hr
     ·simp at hc
    ·simp at hc
   ·simp at hc
  ·simp at hc
 case buildSlice t n ps=>
  split at hc
  ·rename_i e _ _ _ ht
   split at hc
   ·rename_i ti hti
    have hlt:=Nat.le_of_ble_eq_true hc
    cases hp:jS ρ ps.toList with
    |none=>simp only[fm,ht,hti,hp]at hr;simp at hr
    |some l=>
     simp only[fm,ht,hti,hp]at hr
     split at hr
     ·simp at hr
     ·split at hr
      ·split at hr
       ·simp only[ax]at hr;subst hr;exact hlt
       ·simp at hr
      ·simp at hr
   ·simp at hc
  ·simp at hc
theorem AZ {k:IntKind} (h:Az k=true):k=.i64:=by cases k<;>first|rfl|cases h
theorem wrap64 {n:Int} (h:-2^63<=n/\n<2^63):IntKind.i64.wrap n=n:=by
 obtain⟨h1,h2⟩:=h
 simp[IntKind.wrap,IntKind.bits,IntKind.signed];omega
theorem afE {K:Nat} {ρ:Operand->Option AV} {op:Op} {n:Int} (hp:s9 T ρ op=some n) (hn:-2^63<=n/\n<2^63):fm T Γ K ρ pre op=some ⟨.int .i64 n,[],[]⟩:=by
 cases op<;>simp only[s9,reduceCtorEq]at hp
 case binOp o t x y u=>
  split at hp
  ·rename_i k a j b hx hy
   split at hp
   ·rename_i hk hj
    obtain rfl:=AZ hk
    obtain rfl:=AZ hj
    simp only[fm,hx,hy]
    split at hp<;>simp only[ax,reduceCtorEq]at hp<;>subst hp<;>simp[og,isKind,En,cu,wrap64 hn]
   ·simp at hp
  ·simp at hp
 case convert s d x=>
  split at hp
  ·rename_i k1 _ _ _ k _ _ _ k2 m hs hd hx
   split at hp
   ·rename_i hk
    obtain rfl:=AZ hk
    simp only[ax]at hp
    subst hp
    simp only[fm,hs,hd,hx,cu,wrap64 hn]
   ·simp at hp
  ·simp at hp
include hT hΓ in
theorem aiq (h:bu c st D β w) (hpre:∀k o,look k pre=some o->look k st=some o) (hD:∀k,D k->D' k) {K:Nat} (hK:∀k,K<=k->k<K+cR->¬D k/\D' k)
  {ρ:Operand->Option AV} {ev:Operand->Value} (hρ:∀x v,ρ x=some v->bJ (aO c st β) w β v (ev x)) {o:Oper} {r:eu}
  (hr:pY T Γ K ρ pre o.op=some r) (need:r.need):kE P (execOp ev o) w (eW c st D' β w r.ct r.val):=by
 unfold pY at hr
 split at hr
 ·split at hr
  ·rename_i hc
   split at hr
   ·rename_i r' hr'
    simp only[ax]at hr
    subst hr
    have:=rY hT hΓ h hpre hD hK hρ (r:=r') hr' (Ym hc hr')
    exact this
   ·simp at hr
  ·exact rY hT hΓ h hpre hD hK hρ hr need
 ·split at hr
  ·split at hr
   ·rename_i n hp
    simp only[ax]at hr
    subst hr
    have hn:-2^63<=n/\n<2^63:=need
    have:=rY hT hΓ h hpre hD hK hρ (r:=⟨.int .i64 n,[],[]⟩) (afE hp hn) trivial
    exact this
   ·exact rY hT hΓ h hpre hD hK hρ hr need
  ·exact rY hT hΓ h hpre hD hK hρ hr need
theorem abT {p:Prop} {l:List Prop}:au (p::l)↔p/\au l:=by
 cases l<;>simp[au]
theorem Sl {M:Nat->Prop} {ρ:Operand->Option AV} {ev:Operand->Value} (hρ:∀x v,ρ x=some v->bJ M w β v (ev x)) {lo hi:Option Operand} {l h:Int} {n cap:Nat}
  (hl:cK ρ 0 lo=some l) (hh:cK ρ n hi=some h) (h0:0<=l) (h1:l<=h) (h3:h<=n) (h4:n<=cap):
  (Instr.sliceBounds true n cap (lo.map ev) (hi.map ev) none).run P w=.ok (l.toNat,h.toNat,cap) w:=by
 rcases jh hρ hh with⟨rfl,rfl⟩|⟨kh,oh,rfl,hoh⟩
 ·rcases jh hρ hl with⟨rfl,rfl⟩|⟨kl,ol,rfl,hol⟩
  ·simp[Instr.sliceBounds]
  ·simp[Instr.sliceBounds,hol,iZ kl l n .sliceB h0 h1]
 ·have b2:=iZ (P:=P) (w:=w) kh h cap .sliceAcap aa aa
  rcases jh hρ hl with⟨rfl,rfl⟩|⟨kl,ol,rfl,hol⟩
  ·simp[Instr.sliceBounds,hoh,b2]
  ·simp[Instr.sliceBounds,hol,hoh,b2,iZ kl l h.toNat .sliceB h0 aa]
theorem Z4 (t tx ty e:TypeId) (i:TypeInfo) (z:Value) (ht:P.underlying t=some (.slice e)) (hk:P.underlying tx=some (.int .i64)) (hi:P.info? e=some i) (hz:i.zero=some z) (base:Option Addr) (sLen sCap:Nat) (olds:List Value)
  (hold:(Builtin.firstCells i.size sLen (.slice base sLen sCap)).run P w.drew=.ok olds.toArray w.drew) (n:Nat) (h0:0<n) (hs:0<i.size) (hg:sCap<sLen+n)
  (h63:((sLen+n:Nat):Int)<9223372036854775808) (hb:n*i.bytes<=281474976710656) (hfit:Builtin.nextslicecap (sLen+n) sCap*i.bytes<=281474976710656):
  (Builtin.append_ #[t,tx] ty #[.slice base sLen sCap,.int .i64 n]).run P w=
   .ok (.slice (some ⟨w.heap.size,0,none⟩) (sLen+n) (grownCap w (sLen+n) sCap e))
    (w.drew.alloc (.cells (olds.toArray++Builtin.zeroCells z.cells n++Builtin.zeroCells z.cells (grownCap w (sLen+n) sCap e-(sLen+n))) e)):=by
 have hw:IntKind.i64.wrap (n:Int)=n:=by rw[IntKind.wrap_i64];omega
 have hn:¬n=0:=aa
 have hns:¬n*i.size=0:=by
  intro h;rcases Nat.mul_eq_zero.1 h with h|h<;>omega
 have hnc:¬(sLen+n<=sCap):=aa
 have h63':¬(9223372036854775807<((sLen:Int)+(n:Int))):=aa
 have hb':¬(281474976710656<(n:Int)*(i.bytes:Int)):=by
  rw[<-Int.natCast_mul]
  omega
 have h48':¬(281474976710656<Builtin.nextslicecap (sLen+n) sCap*i.bytes):=aa
 have hneg:¬((n:Int)<0):=aa
 set_option maxRecDepth 100000 in
 simp[Builtin.append_,run_underlying ht,run_underlying hk,sizeOf,typeInfo,zeroValue,hi,hz,asInt,asIntOf,hw,hn,hnc,hneg,h63',hb',h48',hns,Question.forced,hold,newRow,grownCap]
include hT in
theorem agb (h:bu c st D β w) (hD:∀k,D k->D' k) {K:Nat} (hK:¬D K) (hDK:D' K) {t t' ty:TypeId} {ti ti' ei:TI}
  (ht:look t T=some ti) (ht':look t' T=some ti') {e:TypeId} (hd:ti.desc=.slice e) (hd':ti'.desc=.int .i64) (he:look e T=some ei) (h1:ei.size≠0) (h2:ei.zero.size=ei.size)
  (h3:ei.zero.isTuple=false) {n cap:Nat} {f:Nat->AV} {x:Value} (hx:bJ (aO c st β) w β (.bS cap (.ak ei.size n f)) x) {m:Nat} (n0:0<m) (hcap:cap<n+m) (n1:(n+m)*(ei.bytes+1)*2<=2^47):
  ∃z w',(Builtin.append_ #[t,t'] ty #[x,.int .i64 m]).run P w=.ok z w'/\eW c st D' β w [(K,some ⟨true,true,ei.size,n+m,fun i=>if i<n then f i else ei.zero⟩)] (.own K ei.size 0 (n+m)) z w':=by
 obtain⟨i,zz,hi,hz,hrep⟩:=(hT e ei he).zero h3
 obtain⟨i',hi',his,hib⟩:=(hT e ei he).info
 rw[hi]at hi'
 simp only[ax]at hi'
 subst hi'
 have hzl:zz.cells.size=ei.size:=by rw[<-Array.length_toList,(hrep (aO c st β) w β).cells.length];simp[sizes,h2]
 obtain⟨base0,m0,rfl,_,hx1⟩:=hx.bS
 obtain⟨base,cap0,cf,hsl,g1,g2,g3,g4,g5⟩:=hx1.bP.ak
 cases hsl
 have hmb:(n+m)*ei.bytes<=2^47:=Nat.le_trans (by rw[Nat.mul_assoc];exact Nat.mul_le_mul_left _ aa) n1
 have hmb2:m*ei.bytes<=(n+m)*ei.bytes:=Nat.mul_le_mul_right _ aa
 have hm2:(n+m)*2<=2^47:=Nat.le_trans (by rw[Nat.mul_assoc];exact Nat.mul_le_mul_left _ aa) n1
 have hfold:(Builtin.firstCells i.size n (.slice base0 n cap)).run P w.drew=.ok (flat cf n).toArray w.drew:=by
  refine qk (w:=w.drew) aa (fun i hi=>by rw[g4 i hi,his]) ?_ n
  rcases g1 with g1|⟨b,o,rfl,g1⟩
  ·exact .inl g1
  ·refine .inr ⟨b,o,rfl,fun i hi j v hv=>?_⟩
   rw[World.cell?_drew,his]
   exact(g1 i hi).range j v hv
 have hrun:=Z4 (P:=P) (w:=w) t t' ty e i zz (hd▸(hT t ti ht).dh) (hd'▸(hT t' ti' ht').dh) hi hz base0 n cap (flat cf n) hfold m n0 aa hcap aa (by rw[hib];omega) (growslice_fits aa (by rw[hib];omega))
 have hcap2:n+m<=grownCap w (n+m) cap e:=by simp[grownCap,Question.cut]
 generalize grownCap w (n+m) cap e=C at hrun hcap2
 refine⟨_,_,hrun,β.set K (w.heap.size,C,n+m),?_⟩
 have e1:cX (aO c st β) w β (aO c st β) w.drew β:=cX.drew
 have ez:(flat cf n).toArray++Builtin.zeroCells zz.cells m=(flat (fun i=>if i<n then cf i else zz.cells.toList) (n+m)).toArray:=by
  apply Array.ext'
  rw[Array.toList_append,Ca]
  exact Eh cf (fun _=>zz.cells.toList) n m
 rw[ez]
 obtain⟨q1,q2⟩:=h.drew.sW (D':=D') (es:=ei.size) (f:=fun i=>if i<n then f i else ei.zero) (cf:=fun i=>if i<n then cf i else zz.cells.toList) hK hD hDK aa hcap2 (fun i hi=>by
  by_cases h':i<n
  ·simp only[if_pos h'];exact⟨g4 i h',(g5 i h').nY e1⟩
  ·simp only[if_neg h'];exact⟨by rw[Array.length_toList,hzl],(hrep _ _ _).cells⟩) (Z:=Builtin.zeroCells zz.cells (C-(n+m))) (by rw[tQ,hzl]) (ty:=e)
 refine⟨q1,e1.trans q2,bw.bP (.cz ?_ rfl)⟩
 exact aQ.own (N:=(C,n+m)) (aZ.gh _ _ _) ⟨by simp,by simp⟩ hcap2 (.inr (by simp)) aa .nil
theorem tK {M:Nat->Prop} {ρ:Operand->Option AV} {ev:Operand->Value} (hρ:∀x v,ρ x=some v->bJ M w β v (ev x)):∀x v,eF ρ x=some v->bJ M w β v (ev x):=fun x v hx=>by
 unfold eF at hx
 cases hx':ρ x with
 |none=>rw[hx']at hx;simp at hx
 |some u=>
  rw[hx']at hx
  simp only[ax]at hx
  subst hx
  exact(hρ x u hx').bE
include hT in
theorem Xg (h:bu c st D β w) (hpre:∀k o,look k pre=some o->look k st=some o) (hD:∀k,D k->D' k) {K:Nat} (hK:¬D K) (hDK:D' K) {t t' ty:TypeId} {ti ti' ei:TI}
  (ht:look t T=some ti) (ht':look t' T=some ti') {e e':TypeId} (hd:ti.desc=.slice e) (hd':ti'.desc=.slice e') (he:look e T=some ei) (h1:ei.size≠0) (h2:ei.zero.size=ei.size)
  (h3:ei.zero.isTuple=false) {n cap:Nat} {f:Nat->AV} {x:Value} (hx:bJ (aO c st β) w β (.bS cap (.ak ei.size n f)) x) {y:AV} {xv:Value} (hy:bJ (aO c st β) w β y xv) {m:Nat} {g:Nat->AV} (hr:readAll pre ei.size y=some (m,g))
  (hcap:cap<n+m) (n1:(n+m)*(ei.bytes+1)*2<=2^47):
  ∃z w',(Builtin.append_ #[t,t'] ty #[x,xv]).run P w=.ok z w'/\eW c st D' β w [(K,some ⟨true,true,ei.size,n+m,fun i=>if i<n then f i else g (i-n)⟩)] (.own K ei.size 0 (n+m)) z w':=by
 obtain⟨i,zz,hi,hz,hrep⟩:=(hT e ei he).zero h3
 obtain⟨i',hi',his,hib⟩:=(hT e ei he).info
 rw[hi]at hi'
 simp only[ax]at hi'
 subst hi'
 have hzl:zz.cells.size=ei.size:=by rw[<-Array.length_toList,(hrep (aO c st β) w β).cells.length];simp[sizes,h2]
 obtain⟨base0,m0,rfl,_,hx1⟩:=hx.bS
 obtain⟨base,cap0,cf,hsl,g1,g2,g3,g4,g5⟩:=hx1.bP.ak
 cases hsl
 obtain⟨ybase,ycap,yf,rfl,y1,y2,y3,y4⟩:=o8 h hpre aa hy hr
 have hsrc:=vZ hT ht' hd' (cap:=ycap) aa y1 y4
 rw[<-his]at hsrc
 have hmb:(n+m)*ei.bytes<=2^47:=Nat.le_trans (by rw[Nat.mul_assoc];exact Nat.mul_le_mul_left _ aa) n1
 have hm2:(n+m)*2<=2^47:=Nat.le_trans (by rw[Nat.mul_assoc];exact Nat.mul_le_mul_left _ aa) n1
 have hfold:(Builtin.firstCells i.size n (.slice base0 n cap)).run P w.drew=.ok (flat cf n).toArray w.drew:=by
  refine qk (w:=w.drew) aa (fun i hi=>by rw[g4 i hi,his]) ?_ n
  rcases g1 with g1|⟨b,o,rfl,g1⟩
  ·exact .inl g1
  ·refine .inr ⟨b,o,rfl,fun i hi j v hv=>?_⟩
   rw[World.cell?_drew,his]
   exact(g1 i hi).range j v hv
 have hrun:=run_append_grow_src (P:=P) w t t' ty e i zz (hd▸(hT t ti ht).dh) hi hz base0 n cap (flat cf n) hfold (.slice ybase m ycap) m (flat yf m) hsrc hcap aa (growslice_fits aa (by rw[hib];omega))
 rw[Eh]at hrun
 have hcap2:n+m<=grownCap w (n+m) cap e:=by simp[grownCap,Question.cut]
 generalize grownCap w (n+m) cap e=C at hrun hcap2
 refine⟨_,_,hrun,β.set K (w.heap.size,C,n+m),?_⟩
 have e1:cX (aO c st β) w β (aO c st β) w.drew β:=cX.drew
 obtain⟨q1,q2⟩:=h.drew.sW (D':=D') (es:=ei.size) (f:=fun i=>if i<n then f i else g (i-n)) (cf:=fun i=>if i<n then cf i else yf (i-n)) hK hD hDK aa hcap2 (fun i hi=>by
  by_cases h':i<n
  ·simp only[if_pos h'];exact⟨g4 i h',(g5 i h').nY e1⟩
  ·simp only[if_neg h'];exact⟨(y4 (i-n) aa).1,(y4 (i-n) aa).2.nY e1⟩) (Z:=Builtin.zeroCells zz.cells (C-(n+m))) (by rw[tQ,hzl]) (ty:=e)
 refine⟨q1,e1.trans q2,bw.bP (.cz ?_ rfl)⟩
 exact aQ.own (N:=(C,n+m)) (aZ.gh _ _ _) ⟨by simp,by simp⟩ hcap2 (.inr (by simp)) aa .nil
include hT in
theorem QW (h:bu c st D β w) (hpre:∀k o,look k pre=some o->look k st=some o) (hD:∀k,D k->D' k) {K:Nat} (hK0:¬D K/\D' K)
  {ρ:Operand->Option AV} {ev:Operand->Value} (hρ:∀x v,ρ x=some v->bJ (aO c st β) w β v (ev x)) {a b:Operand} {argTypes:Array TypeId} {ty:TypeId} {cap k es n:Nat} (hca:ρ a=some (.bS cap (.own k es 0 n)))
  {args:Array Operand} (hargs:args.toList=[a,b]) {K' e' nm:Nat} {ct:List (Nat×Option az)} {iH:List Prop} (hr:jQ T Γ K (eF ρ) pre ⟨.builtin .append,args,argTypes⟩=some ⟨.own K' e' 0 nm,ct,iH⟩) (need:au iH) (hle:nm<=cap):
  ∃z w',(Builtin.append_ argTypes ty #[ev a,ev b]).run P w=.ok z w'/\eW c st D' β w ct (.bS cap (.own K' e' 0 nm)) z w':=by
 have hra:eF ρ a=some (.own k es 0 n):=by simp[eF,hca,bE]
 simp only[jQ,hargs]at hr
 cases ht:argTypes[0]? with
 |none=>rw[ht]at hr;simp at hr
 |some t=>
  cases ht2:argTypes[1]? with
  |none=>rw[ht,ht2]at hr;simp at hr
  |some t'=>
   rw[ht,ht2]at hr
   cases hb:eF ρ b with
   |none=>
    have hop:eM (eF ρ) [a,b]=none:=by simp[eM,hra,hb]
    rw[hop]at hr
    simp at hr
   |some y=>
    by_cases hyt:y.isTuple=true
    ·have hop:eM (eF ρ) [a,b]=none:=by simp[eM,hra,hb,hyt]
     rw[hop]at hr
     simp at hr
    ·have hop:eM (eF ρ) [a,b]=some [own k es 0 n,y]:=by
      simp only[eM,hra,hb,hyt,Bool.false_eq_true,if_false]
      rfl
     rw[hop]at hr
     simp only at hr
     have hat:(Builtin.append_ argTypes ty #[ev a,ev b]).run P w=(Builtin.append_ #[t,t'] ty #[ev a,ev b]).run P w:=by
      simp only[Builtin.append_,ht,ht2]
      rfl
     rw[hat]
     cases htl:look t T with
     |none=>rw[htl]at hr;simp at hr
     |some ti=>
      cases htl2:look t' T with
      |none=>rw[htl,htl2]at hr;obtain⟨d,_,_,_⟩:=ti;cases d<;>simp at hr
      |some ti'=>
       rw[htl,htl2]at hr
       obtain⟨d,sz,by',z⟩:=ti
       obtain⟨d',sz',by'',z'⟩:=ti'
       cases d<;>cases d'<;>simp only[reduceCtorEq]at hr
       case slice.slice e e''=>
        cases he:look e T with
        |none=>rw[he]at hr;simp at hr
        |some ei=>
         rw[he]at hr
         simp only at hr
         cases hrd:readAll pre ei.size y with
         |none=>rw[hrd]at hr;simp at hr
         |some mg=>
          obtain⟨m,g⟩:=mg
          rw[hrd]at hr
          simp only at hr
          cases hk:look k pre with
          |none=>rw[hk]at hr;simp at hr
          |some ob=>
           rw[hk]at hr
           simp only at hr
           split at hr
           ·rename_i hc
            simp only[Bool.and_eq_true,beq_iff_eq,bne_iff_ne,ne_eq,Bool.not_eq_true']at hc
            obtain⟨⟨⟨⟨⟨⟨⟨c1,c2⟩,c3⟩,c4⟩,c5⟩,c6⟩,c7⟩,c8⟩:=hc
            simp only[ax,eu.mk.injEq,own.injEq]at hr
            obtain⟨⟨rfl,rfl,_,rfl⟩,rfl,rfl⟩:=hr
            subst c4
            obtain⟨base,m1,hev,_,hx1⟩:=(hρ a _ hca).bS
            have hm1:m1=n:=by
             rcases hx1.bP.own with⟨b1,o1,cp,N,g1,_⟩|⟨g1,g2,g3,_⟩
             ·rw[hev]at g1;cases g1;rfl
             ·rw[hev]at g1;cases g1;exact g3.symm
            subst hm1
            obtain⟨zv,w',hrun,⟨β',q1,q2,q3⟩,hcp⟩:=JJ hT (ty:=ty) h hpre hD hK0.1 hK0.2 htl htl2 rfl rfl he c5 c6 c7 (tK hρ b y hb) hrd hx1.bP (hpre k ob hk) c1 c2 c3 need
            obtain⟨base',rfl⟩:=hcp base cap hev hle
            exact⟨_,w',hrun,β',q1,q2,bw.bP (.cz (.bS rfl (q3.cell rfl) .nil) rfl)⟩
           ·simp at hr
theorem Hr {M:Nat->Prop} {ρ:Operand->Option AV} {ev:Operand->Value} (hρ:∀x v,ρ x=some v->bJ M w β v (ev x)) {lo hi:Option Operand} {l h:Int} {n cap:Nat}
  (hl:cK ρ 0 lo=some l) (hh:cK ρ n hi=some h) (h0:0<=l) (h1:l<=h) (h3:h<=cap) (h4:n<=cap):
  (Instr.sliceBounds true n cap (lo.map ev) (hi.map ev) none).run P w=.ok (l.toNat,h.toNat,cap) w:=by
 rcases jh hρ hh with⟨rfl,rfl⟩|⟨kh,oh,rfl,hoh⟩
 ·rcases jh hρ hl with⟨rfl,rfl⟩|⟨kl,ol,rfl,hol⟩
  ·simp[Instr.sliceBounds]
  ·simp[Instr.sliceBounds,hol,iZ kl l n .sliceB h0 h1]
 ·have b2:=iZ (P:=P) (w:=w) kh h cap .sliceAcap aa aa
  rcases jh hρ hl with⟨rfl,rfl⟩|⟨kl,ol,rfl,hol⟩
  ·simp[Instr.sliceBounds,hoh,b2]
  ·simp[Instr.sliceBounds,hol,hoh,b2,iZ kl l h.toNat .sliceB h0 aa]
include hT in
theorem UC (h:bu c st D β w) (hD:∀k,D k->D' k) {t t' ty:TypeId} {ti ti' ei:TI}
  (ht:look t T=some ti) (ht':look t' T=some ti') {e e':TypeId} (hd:ti.desc=.slice e) (hd':ti'.desc=.slice e') (he:look e T=some ei) (h1:ei.size≠0) (h3:ei.zero.isTuple=false)
  {k n s m cap:Nat} {o:az} {x y:Value} (hs:bJ (aO c st β) w β (.own k ei.size 0 n) x) (hc:∃base,x=.slice base n cap) (hy:bJ (aO c st β) w β (.own k ei.size s m) y)
  (hk:look k st=some o) (hrow:o.row=true) (hwr:o.wr=true) (hes:o.es=ei.size) (n1:n+m<=cap) (n2:n+m<=o.len):
  ∃z w',(Builtin.append_ #[t,t'] ty #[x,y]).run P w=.ok z w'/\
   eW c st D' β w [(k,some {o with f:=fun i=>if n<=i/\i<n+m then o.f (i-n+s)else o.f i})] (.bS cap (.own k ei.size 0 (n+m))) z w':=by
 obtain⟨i,zz,hi,hz,hrep⟩:=(hT e ei he).zero h3
 obtain⟨i',hi',his,hib⟩:=(hT e ei he).info
 rw[hi]at hi'
 simp only[ax]at hi'
 subst hi'
 obtain⟨base,ycap,cf,rfl,g1,g2,g3,g4⟩:=o8 (pre:=st) h (fun _ _ h=>h) (es:=ei.size) aa hy (show readAll st ei.size (.own k ei.size s m)=some (m,fun i=>o.f (i+s)) by simp[readAll,hk,hrow,hes])
 have hsrc:=vZ hT ht' hd' (cap:=ycap) aa g1 g4
 have hu:=hd▸(hT t ti ht).dh
 have hm0run:m=0->∀{B:Option Addr} {C:Nat},n<=C->(Builtin.append_ #[t,t'] ty #[.slice B n C,.slice base m ycap]).run P w=.ok (.slice B (n+m) C) w:=fun hm0 {B C} hn=>by
  subst hm0
  have hcells:=hsrc.cells
  have hf:(flat cf 0).toArray=#[]:=by simp[flat]
  rw[hf]at hcells
  cases B with
  |none=>simp[Builtin.append_,run_underlying hu,run_underlying (hd'▸(hT t' ti' ht').dh),sizeOf,typeInfo,hi,Builtin.lenOf,his,hcells,hn,storeCells]
  |some b=>simp[Builtin.append_,run_underlying hu,run_underlying (hd'▸(hT t' ti' ht').dh),sizeOf,typeInfo,hi,Builtin.lenOf,his,hcells,hn,storeCells]
 have hsame:m=0->(fun i=>if n<=i/\i<n+m then o.f (i-n+s)else o.f i)=o.f:=fun hm0=>funext fun i=>if_neg aa
 obtain⟨bx,hbx⟩:=hc
 rcases hs.own with hs|⟨rfl,_,rfl,k6⟩
 rotate_left
 ·cases hbx
  have hm0:m=0:=aa
  obtain⟨q1,q2⟩:=h.Cd (o':={o with f:=fun i=>if 0<=i/\i<0+m then o.f (i-0+s)else o.f i}) hk (by rw[hsame hm0])
  refine⟨_,_,hm0run hm0 (Nat.zero_le _),β,q1.lK hD,q2,bw.bP (.cz (.bS rfl ?_ .nil) rfl)⟩
  subst hm0
  exact .own0 k6 .nil
 obtain⟨b,off,scap,N,rfl,k1,k2,k3,k4,k5,k6⟩:=hs
 cases hbx
 obtain⟨cs,cty,cfo,e1,e2,e3,e4,e5,e6⟩:=h.elems hk hrow k1
 have hold:∀i,i<o.len->(cfo i).length=ei.size/\aQ (aO c st β) w bt [o.f i] (cfo i)/\∀j v,(cfo i)[j]?=some v->cs[i*ei.size+j]?=some v:=fun i hi=>by
  have:=e6 i hi
  rwa [hes]at this
 have hfl:=lG (cf:=cf) (m:=m) (es:=ei.size) fun i hi=>(g4 i hi).1
 have hfit:n*ei.size+m*ei.size<=cs.size:=by
  rw[e2,hes,<-Nat.add_mul];exact Nat.mul_le_mul_right _ aa
 have hrun:(Builtin.append_ #[t,t'] ty #[.slice (some ⟨b,off,none⟩) n cap,.slice base m ycap]).run P w=.ok (.slice (some ⟨b,off,none⟩) (n+m) cap) (w.setRow b (splice cs (n*ei.size) (flat cf m))):=by
  by_cases hm0:m=0
  ·rw[hm0run hm0 k4]
   subst hm0
   rw[show splice cs (n*ei.size) (flat cf 0)=cs by simp[flat,splice],setRow_self w b cs cty _ e1]
  ·have hoff:off=0:=by rcases k5 with k5|k5<;>omega
   subst hoff
   have hst:=run_storeCells_at P b (n*ei.size) cty (flat cf m) 0 cs w e1 (by rw[hfl];simpa using hfit) (uT fun i hi=>(g4 i hi).2)
   simp only[Nat.add_zero]at hst
   have hcells:=hsrc.cells
   simp[Builtin.append_,run_underlying hu,run_underlying (hd'▸(hT t' ti' ht').dh),sizeOf,typeInfo,hi,Builtin.lenOf,his,hcells,n1,Addr.add_lit,hst,splice]
 have hq:=h.write (o':={o with f:=fun i=>if n<=i/\i<n+m then o.f (i-n+s)else o.f i}) hk hwr k1 e1 (wT (by rw[hfl];exact hfit)) rfl hwr rfl (fun i hi=>?_)
 ·refine⟨_,_,hrun,β,hq.1.lK hD,hq.2,bw.bP (.cz (.bS rfl ?_ .nil) rfl)⟩
  exact .own k1 ⟨k2,aa⟩ n1 k5 k6 .nil
 ·have hi':i<o.len:=hi
  obtain⟨f1,f2,f3⟩:=hold i hi'
  by_cases hin:n<=i/\i<n+m
  ·obtain⟨a1,a2⟩:=g4 (i-n) aa
   refine⟨cf (i-n),?_,?_,fun j v hv=>?_⟩
   ·rw[a1];exact hes.symm
   ·simp only[hrow,if_true,if_pos hin]
    exact a2
   ·have hj:j<ei.size:=by rw[<-a1];exact(List.getElem?_eq_some_iff.1 hv).1
    have h5:i*ei.size=n*ei.size+(i-n)*ei.size:=by rw[<-Nat.add_mul];congr 1;omega
    have h6:=Nat.mul_le_mul_right ei.size (show(i-n)+1<=m by omega)
    rw[Nat.add_mul,Nat.one_mul]at h6
    simp only[hes]
    rw[mB (by rw[hfl];exact hfit),hfl,if_pos aa]
    have h7:i*ei.size+j-n*ei.size=(i-n)*ei.size+j:=aa
    rw[h7,nO (fun i hi=>(g4 i hi).1) aa hj]
    exact hv
  ·refine⟨cfo i,?_,?_,fun j v hv=>?_⟩
   ·rw[f1];exact hes.symm
   ·simp only[hrow,if_true,if_neg hin];exact f2
   ·have hj:j<ei.size:=by rw[<-f1];exact(List.getElem?_eq_some_iff.1 hv).1
    simp only[hes]
    rw[mB (by rw[hfl];exact hfit),hfl,if_neg ?_]
    ·exact f3 j v hv
    ·by_cases hlt:i<n
     ·have:=Nat.mul_le_mul_right ei.size (show i+1<=n by omega)
      rw[Nat.add_mul,Nat.one_mul]at this;omega
     ·have:=Nat.mul_le_mul_right ei.size (show n+m<=i by omega)
      rw[Nat.add_mul]at this;omega
include hT in
theorem ag2 (h:bu c st D β w) (hpre:∀k o,look k pre=some o->look k st=some o) (hD:∀k,D k->D' k)
  {ρ:Operand->Option AV} {ev:Operand->Value} (hρ:∀x v,ρ x=some v->bJ (aO c st β) w β v (ev x)) {a b:Operand} {t t' ty:TypeId} {cap k es n:Nat} (hca:ρ a=some (.bS cap (.own k es 0 n)))
  {r:eu} (hr:tq T pre t t' cap k es n (eF ρ b)=some r) (need:r.need):
  ∃z w',(Builtin.append_ #[t,t'] ty #[ev a,ev b]).run P w=.ok z w'/\eW c st D' β w r.ct r.val z w':=by
 cases hb:eF ρ b with
 |none=>rw[hb]at hr;simp[tq]at hr
 |some v=>
  rw[hb]at hr
  cases v<;>try (simp only[tq,reduceCtorEq]at hr;done)
  case own k' es' s m=>
   simp only[tq]at hr
   split at hr
   rotate_left
   ·simp at hr
   rename_i e sz by' z e' sz' by'' z' htl htl2
   split at hr
   rotate_left
   ·simp at hr
   rename_i ei o he hk
   split at hr
   rotate_left
   ·simp at hr
   rename_i hc
   simp only[Bool.and_eq_true,beq_iff_eq,bne_iff_ne,ne_eq,Bool.not_eq_true']at hc
   obtain⟨⟨⟨⟨⟨⟨⟨c1,c2⟩,c3⟩,c4⟩,c5⟩,c6⟩,c7⟩,c8⟩:=hc
   subst c1 c2
   simp only[ax]at hr
   subst hr
   obtain⟨n1,n2⟩:n+m<=cap/\n+m<=o.len:=need
   obtain⟨base,m0,hev,_,hx1⟩:=(hρ a _ hca).bS
   subst c6
   have hown:=hx1.bP.own
   have hm0:m0=n:=by
    rcases hown with⟨b',o',cap',N,hsl,_⟩|⟨hsl,_,h0,_⟩
    ·rw[hev]at hsl;cases hsl;rfl
    ·rw[hev]at hsl;cases hsl;exact h0.symm
   subst hm0
   exact UC hT (ty:=ty) h hD htl htl2 rfl rfl he c7 c8 hx1.bP ⟨base,hev⟩ (tK hρ b _ hb) (hpre _ _ hk) c3 c4 c5 n1 n2
include hT hΓ in
theorem Z1 (h:bu c st D β w) (hpre:∀k o,look k pre=some o->look k st=some o) (hD:∀k,D k->D' k) {K:Nat} (hK:∀k,K<=k->k<K+cR->¬D k/\D' k)
  {ρ:Operand->Option AV} {ev:Operand->Value} (hρ:∀x v,ρ x=some v->bJ (aO c st β) w β v (ev x)) {o:Oper} {r:eu}
  (hr:lH T Γ K ρ pre o.op=some r) (need:r.need):kE P (execOp ev o) w (eW c st D' β w r.ct r.val):=by
 have hK0:¬D K/\D' K:=hK K aR (by simp[cR])
 obtain⟨dst,op,type,pos,after,guard⟩:=o
 simp only at hr
 cases op<;>simp only[lH,reduceCtorEq]at hr
 case makeSlice t l cp=>
  split at hr
  rotate_left
  ·simp at hr
  cases hr0:fm T Γ K (eF ρ) pre (.makeSlice t l cp)with
  |none=>rw[hr0]at hr;simp at hr
  |some r0=>
   cases hc:eF ρ cp with
   |none=>rw[hr0,hc]at hr;simp at hr
   |some cv=>
    rw[hr0,hc]at hr
    cases cv<;>try (simp only[reduceCtorEq]at hr;done)
    case int kc m=>
     cases kc<;>try (simp only[reduceCtorEq]at hr;done)
     case i64=>
      simp only[ax]at hr
      subst hr
      have hN:=tK hρ
      simp only[fm]at hr0
      cases ht:look t T with
      |none=>rw[ht]at hr0;simp at hr0
      |some ti=>
       cases hl:eF ρ l with
       |none=>rw[ht,hl]at hr0;obtain⟨d,_,_,_⟩:=ti;cases d<;>simp at hr0
       |some lv=>
        rw[ht,hl,hc]at hr0
        obtain⟨d,sz,by',z⟩:=ti
        cases d<;>try (simp only[reduceCtorEq]at hr0;done)
        case slice e=>
         have hlv:=hN l lv hl
         have hcv:=hN cp _ hc
         cases lv<;>try (simp only[reduceCtorEq]at hr0;done)
         case int k n=>
          cases k<;>try (simp only[reduceCtorEq]at hr0;done)
          case i64=>
           simp only at hr0
           cases he:look e T with
           |none=>rw[he]at hr0;simp at hr0
           |some ei=>
            rw[he]at hr0
            simp only at hr0
            split at hr0
            ·simp at hr0
            ·rename_i hcc
             simp only[Bool.or_eq_true,beq_iff_eq,bne_iff_ne,ne_eq,not_or,Bool.not_eq_true,Decidable.not_not]at hcc
             simp only[ax]at hr0
             subst hr0
             obtain⟨x,w',hrun,⟨β',q1,q2,q3⟩,base,rfl⟩:=Kh hT h hD hK0.1 hK0.2 ht rfl he hcc.1.1 hcc.1.2 hcc.2 need.1 need.2.1 need.2.2.1 need.2.2.2
             refine cO ?_ ⟨β',q1,q2,bw.bP (.cz (.bS rfl (q3.cell rfl) .nil) rfl)⟩
             simp only[execOp,Sem.run_bind,hlv.int,hcv.int,hrun,Result.andThen_ok,Sem.run_pure]
 case slice t x lo hi mx=>
  cases mx with
  |some mx=>
   simp only[lH]at hr
   split at hr
   rotate_left
   ·simp at hr
   split at hr
   rotate_left
   ·simp at hr
   rename_i es n f hx
   split at hr
   rotate_left
   ·simp at hr
   rename_i e sz by' z ht
   split at hr
   rotate_left
   ·simp at hr
   rename_i ei l hh m he hl hhi hmx
   split at hr
   rotate_left
   ·simp at hr
   rename_i hc
   simp only[Bool.and_eq_true,beq_iff_eq,bne_iff_ne,ne_eq]at hc
   simp only[ax]at hr
   subst hr
   obtain⟨n1,n2,n3,n4⟩:0<=l/\l<=hh/\hh<=m/\m<=n:=need
   obtain⟨base,cap,cf,hev,g1,g2,g3,g4,g5⟩:=(tK hρ x _ hx).ak
   obtain⟨oh,rfl⟩:=Option.isSome_iff_exists.1 hc.2
   have hmx':∃km,ev mx=.int km m:=by
    rcases jh hρ hmx with⟨h1,_⟩|⟨km,om,h1,h2⟩
    ·cases h1
    ·cases h1;exact⟨km,h2⟩
   have hhi':∃kh,ev oh=.int kh hh:=by
    rcases jh hρ hhi with⟨h1,_⟩|⟨km,om,h1,h2⟩
    ·cases h1
    ·cases h1;exact⟨km,h2⟩
   obtain⟨km,hom⟩:=hmx'
   obtain⟨kh,hoh⟩:=hhi'
   have hb:(Instr.sliceBounds true n cap (lo.map ev) (some (ev oh)) (some (ev mx))).run P w=.ok (l.toNat,hh.toNat,m.toNat) w:=by
    have b1:=iZ (P:=P) (w:=w) km m cap .slice3Acap aa aa
    have b2:=iZ (P:=P) (w:=w) kh hh m.toNat .slice3B aa aa
    rcases jh hρ hl with⟨rfl,rfl⟩|⟨kl,ol,rfl,hol⟩
    ·simp[Instr.sliceBounds,hom,hoh,b1,b2]
    ·simp[Instr.sliceBounds,hom,hol,hoh,b1,b2,iZ kl l hh.toNat .slice3C n1 aa]
   have hrun:=wX hT ht rfl he hb (base:=base)
   refine cO (w':=w) ?_ (dP h hD (bw.bP (.cz (.bS (base:=if m.toNat=l.toNat then base else base.map (·.add (l.toNat*ei.size))) (n:=hh.toNat-l.toNat) rfl ?_ .nil) rfl)))
   ·simp only[execOp,Sem.run_bind,Option.map_some,hev,hrun,Result.andThen_ok,Sem.run_pure]
   ·refine .ak (cf:=fun i=>cf (i+l.toNat)) ?_ g2 aa (fun i hi=>g4 _ aa) (fun i hi=>g5 _ aa) .nil
    by_cases hz:hh.toNat-l.toNat=0
    ·exact .inl hz
    ·right
     rcases g1 with g1|⟨b,o,rfl,g1⟩
     ·omega
     ·refine⟨b,o+l.toNat*ei.size,?_,fun i hi=>?_⟩
      ·rw[if_neg aa];simp[Addr.add_mid]
      ·have:=g1 (i+l.toNat) aa
       rw[Nat.add_mul]at this
       rw[hc.1.1,Nat.add_assoc,Nat.add_comm (l.toNat*es)]
       exact this
  |none=>
   simp only[lH]at hr
   split at hr
   ·rename_i cap es n f hx
    split at hr
    rotate_left
    ·simp at hr
    rename_i e sz by' z ht
    split at hr
    rotate_left
    ·simp at hr
    rename_i ei l hh he hl hhi
    split at hr
    rotate_left
    ·simp at hr
    rename_i hc
    simp only[Bool.and_eq_true,beq_iff_eq,bne_iff_ne,ne_eq]at hc
    simp only[ax]at hr
    subst hr
    obtain⟨n1,n2,n3⟩:0<=l/\l<=hh/\hh<=n:=need
    obtain⟨base,m0,hev,_,hx1⟩:=(hρ x _ hx).bS
    obtain⟨base',cap',cf,hsl,g1,g2,g3,g4,g5⟩:=hx1.bP.ak
    rw[hev]at hsl
    cases hsl
    have hb:=Sl (P:=P) (cap:=cap) hρ hl hhi n1 n2 n3 g3
    have hrun:=wX hT ht rfl he hb (base:=base)
    refine cO (w':=w) ?_ (dP h hD (bw.bP (.cz (.bS (base:=if cap=l.toNat then base else base.map (·.add (l.toNat*ei.size))) (n:=hh.toNat-l.toNat) rfl ?_ .nil) rfl)))
    ·simp only[execOp,Sem.run_bind,Option.map_none,hev,hrun,Result.andThen_ok,Sem.run_pure]
    ·refine .ak (cf:=fun i=>cf (i+l.toNat)) ?_ g2 aa (fun i hi=>g4 _ aa) (fun i hi=>g5 _ aa) .nil
     by_cases hz:hh.toNat-l.toNat=0
     ·exact .inl hz
     ·right
      rcases g1 with g1|⟨b,o,rfl,g1⟩
      ·omega
      ·refine⟨b,o+l.toNat*ei.size,?_,fun i hi=>?_⟩
       ·rw[if_neg aa];simp[Addr.add_mid]
       ·have:=g1 (i+l.toNat) aa
        rw[Nat.add_mul]at this
        rw[hc.1,Nat.add_assoc,Nat.add_comm (l.toNat*es)]
        exact this
   ·rename_i cap k es s n hx
    split at hr
    rotate_left
    ·simp at hr
    rename_i e sz by' z ht
    split at hr
    rotate_left
    ·simp at hr
    rename_i ei ob l hh he hob hl hhi
    split at hr
    rotate_left
    ·simp at hr
    rename_i hc
    simp only[Bool.and_eq_true,beq_iff_eq,bne_iff_ne,ne_eq]at hc
    simp only[ax]at hr
    subst hr
    obtain⟨n1,n2,n3,n4⟩:0<=l/\l<=hh/\hh<=cap/\(s:Int)+hh<=ob.len:=need
    obtain⟨base,m0,hev,_,hx1⟩:=(hρ x _ hx).bS
    obtain⟨⟨⟨c1,c2⟩,c3⟩,c4⟩:=hc
    rcases hx1.bP.own with⟨b,off,cap',N,hsl,k1,k2,k3,k4,k5,k6⟩|⟨hsl,rfl,rfl,k6⟩
    ·rw[hev]at hsl
     cases hsl
     obtain⟨cs,cty,cfo,e1,e2,e3,e4,e5,e6⟩:=h.elems (hpre _ _ hob) c3 k1
     have hb:=Hr (P:=P) (w:=w) (cap:=cap) hρ hl hhi n1 n2 n3 k4
     have hrun:=wX hT ht rfl he hb (base:=some ⟨b,off,none⟩)
     refine cO (w':=w) ?_ (dP h hD (bw.bP (.cz (.bS (base:=if cap=l.toNat then some ⟨b,off,none⟩else(some ⟨b,off,none⟩:Option Addr).map (·.add (l.toNat*ei.size))) (n:=hh.toNat-l.toNat) rfl ?_ .nil) rfl)))
     ·simp only[execOp,Sem.run_bind,Option.map_none,hev,hrun,Result.andThen_ok,Sem.run_pure]
     ·by_cases hz:cap=l.toNat
      ·rw[if_pos hz]
       exact .own k1 ⟨aa,aa⟩ aa (.inl aa) k6 .nil
      ·rw[if_neg hz]
       have ho:off=s*es:=k5.resolve_left aa
       rw[show Option.map (·.add (l.toNat*ei.size)) (some (⟨b,off,none⟩:Addr))=some ⟨b,off+l.toNat*ei.size,none⟩ by simp[Addr.add_mid]]
       exact .own k1 ⟨aa,aa⟩ aa (.inr (by rw[ho,c1,Nat.add_mul])) k6 .nil
    ·rw[hev]at hsl
     cases hsl
     have l0:l=0:=aa
     have h0:hh=0:=aa
     subst l0 h0
     have hb:=Hr (P:=P) (w:=w) (cap:=0) hρ hl hhi n1 n2 aa aR
     have hrun:=wX hT ht rfl he hb (base:=none)
     refine cO (w':=w) ?_ (dP h hD (bw.bP (.cz (.bS (base:=none) (n:=0) rfl (.own0 k6 .nil) .nil) rfl)))
     simp only[execOp,Sem.run_bind,Option.map_none,hev,hrun,Result.andThen_ok,Sem.run_pure]
     simp
   ·simp at hr
 case call cl=>
  obtain⟨callee,args,argTypes⟩:=cl
  cases callee with
  |invoke r m=>simp at hr
  |value f=>
   simp only at hr
   split at hr
   ·exact NY hT hΓ h hpre hD hK hρ (o:=⟨dst,.call ⟨.value f,args,argTypes⟩,type,pos,after,guard⟩) rfl hr need
   ·simp at hr
  |builtin bi=>
   cases bi<;>simp only[reduceCtorEq]at hr
   case cap=>
    cases ht:argTypes[0]? with
    |none=>rw[ht]at hr;simp at hr
    |some t=>
     rw[ht]at hr
     split at hr
     rotate_left
     ·simp at hr
     rename_i t' a ht' hargs
     cases ht'
     split at hr
     rotate_left
     ·simp at hr
     rename_i e sz by' z n v htl ha
     simp only[cu,ax]at hr
     subst hr
     obtain⟨base,m0,hev,_,_⟩:=(hρ a _ ha).bS
     have hu:=(hT t _ htl).dh
     have hargs':Array.map ev args=#[ev a]:=by apply Array.ext';simp[hargs]
     refine cO (x:=.int .i64 n) (w':=w) ?_ (dP h hD (bw.bP (.cz (.int .nil) rfl)))
     have hres:(execOp ev ⟨dst,.call ⟨.builtin .cap,args,argTypes⟩,type,pos,after,guard⟩:Sem Next)=builtin .cap argTypes type (args.map fun|.const _=>true|_=>false) (Array.map ev args):=rfl
     rw[hres,hargs',hev]
     simp[builtin,Builtin.cap_,ht,run_underlying hu,goInt]
   case append=>
    cases ht:argTypes[0]? with
    |none=>rw[ht]at hr;simp at hr
    |some t=>
     cases ht2:argTypes[1]? with
     |none=>rw[ht,ht2]at hr;simp at hr
     |some t'=>
      rw[ht,ht2]at hr
      split at hr
      rotate_left
      ·simp at hr
      rename_i t1 t1' a b e1 e2 hargs
      cases e1
      cases e2
      have hargs':Array.map ev args=#[ev a,ev b]:=by apply Array.ext';simp[hargs]
      have hres:(execOp ev ⟨dst,.call ⟨.builtin .append,args,argTypes⟩,type,pos,after,guard⟩:Sem Next)=builtin .append argTypes type (args.map fun|.const _=>true|_=>false) (Array.map ev args):=rfl
      rw[hres,hargs']
      split at hr
      ·rename_i cap k es n hca
       cases hself:tq T pre t t' cap k es n (eF ρ b)with
       |some r'=>
        rw[hself]at hr
        simp only[ax]at hr
        subst hr
        obtain⟨zv,w',hrun,hR⟩:=ag2 hT h hpre hD hρ (ty:=type) hca hself need
        have hat:(Builtin.append_ argTypes type #[ev a,ev b]).run P w=(Builtin.append_ #[t,t'] type #[ev a,ev b]).run P w:=by
         simp only[Builtin.append_,ht,ht2]
         rfl
        refine cO ?_ hR
        simp only[builtin,Sem.run_bind,hat,hrun,Result.andThen_ok,Sem.run_pure]
       |none=>
       rw[hself]at hr
       simp only at hr
       split at hr
       ·rename_i K' e' nm ct iH hr'
        simp only[ax]at hr
        subst hr
        obtain⟨q1,q2⟩:=abT.1 need
        obtain⟨z,w',hrun,hR⟩:=QW hT h hpre hD hK0 hρ (ty:=type) hca hargs hr' q2 q1
        refine cO ?_ hR
        simp only[builtin,Sem.run_bind,hrun,Result.andThen_ok,Sem.run_pure]
       ·simp at hr
      ·rename_i cap es n f hca
       have hat:∀x y,(Builtin.append_ argTypes type #[x,y]).run P w=(Builtin.append_ #[t,t'] type #[x,y]).run P w:=fun x y=>by
        simp only[Builtin.append_,ht,ht2]
        rfl
       split at hr
       ·rename_i e sz by' z e' sz' by'' z' y htl htl2 hb
        split at hr
        rotate_left
        ·simp at hr
        rename_i ei he
        split at hr
        rotate_left
        ·simp at hr
        rename_i m g hrd
        split at hr
        ·simp at hr
        rename_i hc
        simp only[Bool.or_eq_true,beq_iff_eq,bne_iff_ne,ne_eq,not_or,Bool.not_eq_true,Decidable.not_not]at hc
        obtain⟨⟨⟨c2,c3⟩,c4⟩,c5⟩:=hc
        simp only[ax]at hr
        subst hr
        subst c5
        obtain⟨n2,n3⟩:cap<n+m/\(n+m)*(ei.bytes+1)*2<=2^47:=need
        obtain⟨zv,w',hrun,hR⟩:=Xg hT (ty:=type) h hpre hD hK0.1 hK0.2 htl htl2 rfl rfl he c2 c3 c4 (hρ a _ hca) (tK hρ b y hb) hrd n2 n3
        refine cO ?_ hR
        simp only[builtin,Sem.run_bind,hat,hrun,Result.andThen_ok,Sem.run_pure]
       ·rename_i e sz by' z sz' by'' z' m htl htl2 hb
        split at hr
        rotate_left
        ·simp at hr
        rename_i ei he
        split at hr
        ·simp at hr
        rename_i hc
        simp only[Bool.or_eq_true,beq_iff_eq,bne_iff_ne,ne_eq,not_or,Bool.not_eq_true,Decidable.not_not]at hc
        obtain⟨⟨⟨c2,c3⟩,c4⟩,c5⟩:=hc
        simp only[ax]at hr
        subst hr
        subst c5
        obtain⟨n1,n2,n3⟩:0<m/\cap<n+m.toNat/\(n+m.toNat)*(ei.bytes+1)*2<=2^47:=need
        obtain⟨zv,w',hrun,hR⟩:=agb hT (ty:=type) (m:=m.toNat) h hD hK0.1 hK0.2 htl htl2 rfl rfl he c2 c3 c4 (hρ a _ hca) aa n2 n3
        have hbv:=(tK hρ b _ hb).int
        rw[show((m.toNat:Nat):Int)=m by omega,<-hbv]at hrun
        refine cO ?_ hR
        simp only[builtin,Sem.run_bind,hat,hrun,Result.andThen_ok,Sem.run_pure]
       ·simp at hr
      ·simp at hr
include hT hΓ in
theorem LW (h:bu c st D β w) (hpre:∀k o,look k pre=some o->look k st=some o) (hD:∀k,D k->D' k) {K:Nat} (hK:∀k,K<=k->k<K+cR->¬D k/\D' k)
  {ρ:Operand->Option AV} {ev:Operand->Value} (hρ:∀x v,ρ x=some v->bJ (aO c st β) w β v (ev x)) (hev:∀v,ev (.const v)=v) {o:Oper} {r:eu}
  (hr:kZ T Γ K ρ pre o.op=some r) (need:r.need):kE P (execOp ev o) w (eW c st D' β w r.ct r.val):=by
 unfold kZ at hr
 cases hn:oN T ρ o.op with
 |some v=>
  rw[hn]at hr
  simp only[cu,ax]at hr
  subst hr
  obtain⟨dst,op,type,pos,after,guard⟩:=o
  obtain⟨o,t,x,y,u,b,es,n,f,z,h1,hx,hy,hs,h2,h3⟩:=SG hn
  simp only at h1
  subst h1 h2
  obtain⟨cs,hv,hv2⟩:=bJ.one (hρ x _ hx) rfl
  have hnil:=(hρ y _ hy).nil
  have hbool:∀t,bJ (aO c st β) w β (.bool t) (.bool t):=fun t=>bw.bP (.cz (.bool .nil) rfl)
  have hsl:∃e,P.underlying t=some (.slice e):=by
   unfold isSlice at hs
   cases ht:look t T with
   |none=>rw[ht]at hs;simp at hs
   |some ti=>
    rw[ht]at hs
    have hu:=(hT _ _ ht).dh
    simp only at hs
    cases hd:ti.desc<;>rw[hd]at hs<;>simp only[Kv,Bool.false_eq_true]at hs
    case slice e=>exact⟨e,by rw[hu,hd]⟩
  obtain⟨e,hu⟩:=hsl
  have hev':∃base cap,ev x=.slice base n cap/\base.isNone=b:=by
   cases hv with
   |eB g0 g1 g2 g3 g4 g5 g6=>
    rename_i base cap cs' cf
    cases g6
    exact⟨base,cap,by simpa [show(eB b es n f).isAgg=false from rfl,eq_comm]using hv2,g0⟩
  obtain⟨base,cap,hev,hb⟩:=hev'
  refine cO (x:=.bool z) (w':=w) ?_ (dP h hD (hbool _))
  rcases h3 with⟨rfl,rfl⟩|⟨rfl,rfl⟩
  ·simp only[execOp,hev,hnil,eqGuard_at_slice,binOp]
   simp[run_equal_slice_nil w t e base n cap hu,hb]
  ·simp only[execOp,hev,hnil,eqGuard_at_slice,binOp]
   simp[run_equal_slice_nil w t e base n cap hu,hb]
 |none=>
  rw[hn]at hr
  simp only at hr
  cases hstr:oQ T pre ρ o.op with
  |some r'=>
   rw[hstr]at hr
   simp only[ax]at hr
   subst hr
   exact aez hT h hpre hD hρ (o:=o) hev hstr need
  |none=>
  rw[hstr]at hr
  simp only at hr
  cases hcap:lH T Γ K ρ pre o.op with
  |some r'=>
   rw[hcap]at hr
   simp only[ax]at hr
   subst hr
   exact Z1 hT hΓ h hpre hD hK hρ hcap need
  |none=>
  rw[hcap]at hr
  simp only at hr
  split at hr
  ·exact rY hT hΓ h hpre hD hK hρ hr need
  ·refine aiq hT hΓ h hpre hD hK (ρ:=eF ρ) (fun x v hx=>?_) hr need
   unfold eF at hx
   cases hx':ρ x with
   |none=>rw[hx']at hx;simp at hx
   |some u=>
    rw[hx']at hx
    simp only[ax]at hx
    subst hx
    exact(hρ x u hx').bE
end ops
end Go.Am
namespace Go.Am
open AV
def nM (M:Nat->Prop) (w:World) (β:aZ) (sl:List (Nat×AV)) (tmps:Array Value):Prop:=∀t v,look t sl=some v->∃x,tmps[t]?=some x/\bJ M w β v x
def JP (D:Nat):Deferred:={target:=.collected D,args:=#[]}
def oX (c:Ctx) (ds:List Deferred) (w:World):Prop:=
 (c.ro.isSome=true->ds=[])/\∃Ds:List Nat,ds=Ds.map JP/\Ds.Nodup/\∀D∈Ds,w.heap[D]?=some (.deferred (some []))/\c.w0.heap.size<=D
theorem oX.nil {c:Ctx} {w:World}:oX c [] w:=⟨fun _=>rfl,[],rfl,.nil,fun _ h=>by cases h⟩
theorem oX.iE {c:Ctx} {ds:List Deferred} {w w':World} {st:aD} {D:Nat->Prop} {β β':aZ} {M':Nat->Prop} (h:oX c ds w) (hw:bu c st D β w) (he:cX (aO c st β) w β M' w' β'):oX c ds w':=by
 obtain⟨h0,Ds,h1,h2,h3⟩:=h
 refine⟨h0,Ds,h1,h2,fun D hD=>⟨(he.heap D _ ?_ (h3 D hD).1).1,(h3 D hD).2⟩⟩
 rintro(hm|⟨k,o,N,g1,_,g3⟩)
 ·exact Nat.not_lt.2 (h3 D hD).2 (hw.gB D hm).1
 ·obtain⟨b,N',cs,ty,q1,q2,_⟩:=hw.obj k o g1 _ g3
  rw[g3]at q1
  cases q1
  rw[(h3 D hD).1]at q2
  cases q2
def Rel (c:Ctx) (nt:Nat) (D:Nat->Prop) (sl:List (Nat×AV)) (st:aD) (a:Act) (w:World):Prop:=
 oX c a.defers w/\a.tmps.size=nt/\∃β,bu c st D β w/\nM (aO c st β) w β sl a.tmps
theorem wF {dst:Option Tmp} {v:AV} {sl:List (Nat×AV)} {t:Nat}:look t (oT dst v sl)=if dst=some t then some v else look t sl:=by
 cases dst with
 |none=>simp[oT]
 |some d=>
  simp only[oT,yM,ax]
  by_cases h:t=d
  ·simp[h]
  ·have:¬d=t:=fun e=>h e.symm
   simp[h,this]
theorem lT {st:aD} {k:Nat}:∀{ks:List Nat},look k (pick st ks)=if k∈ks then look k st else none
 |[]=>by simp[pick,look]
 |j::ks=>by
  simp only[pick]
  cases hj:look j st with
  |none=>
   simp only[lT (ks:=ks),List.mem_cons]
   by_cases h:k=j
   ·subst h;simp[hj]
   ·simp[h]
  |some o=>
   simp only[yM,lT (ks:=ks),List.mem_cons]
   by_cases h:k=j
   ·subst h;simp[hj]
   ·simp[h]
theorem uB {st:aD}:∀{ks:List Nat},((pick st ks).map (·.1)).Nodup
 |[]=>by simp[pick]
 |j::ks=>by
  simp only[pick]
  cases hj:look j st with
  |none=>exact uB
  |some o=>
   have:=uB (st:=st) (ks:=ks)
   revert this
   generalize pick st ks=l
   intro hl
   induction l with
   |nil=>simp[put]
   |cons p l ih=>
    obtain⟨i,b⟩:=p
    simp only[List.map_cons,List.nodup_cons]at hl
    simp only[put]
    by_cases h:(i==j)=true
    ·have:i=j:=by simpa using h
     subst this
     simp only[BEq.rfl,if_true,List.map_cons,List.nodup_cons]
     exact hl
    ·simp only[h,Bool.false_eq_true,if_false,List.map_cons,List.nodup_cons]
     refine⟨fun hm=>?_,ih hl.2⟩
     have hmem:∀(l:aD),i∈(put j o l).map (·.1)->i=j\/i∈l.map (·.1):=by
      intro l
      induction l with
      |nil=>simp[put]
      |cons q l ih2=>
       obtain⟨i2,b2⟩:=q
       simp only[put]
       by_cases h2:(i2==j)=true
       ·simp only[h2,if_true,List.map_cons,List.mem_cons]
        rintro(h3|h3)
        ·exact .inl h3
        ·exact .inr (.inr h3)
       ·simp only[h2,Bool.false_eq_true,if_false,List.map_cons,List.mem_cons]
        rintro(h3|h3)
        ·exact .inr (.inl h3)
        ·exact(ih2 h3).imp id .inr
     rcases hmem l hm with h3|h3
     ·exact h (by simpa using h3)
     ·exact hl.1 h3
theorem AY {p:Prop} {l:List Prop}:au (p::l)↔p/\au l:=by
 cases l<;>simp[au]
theorem dN {a b:List Prop}:au (a++b)↔au a/\au b:=by
 induction a with
 |nil=>simp[au]
 |cons p a ih=>rw[List.cons_append,AY,AY,ih,and_assoc]
theorem ML {orc:List (Nat×Bool)} {i:Nat} {r:eu} (h:au (guess orc i r).iH):au r.iH/\(guess orc i r).val=r.val/\(guess orc i r).ct=r.ct:=by
 unfold guess at h ⊢
 split
 ·rename_i t ht
  rw[ht]at h
  simp only at h
  split
  ·rename_i b hb
   rw[hb]at h
   simp only at h
   obtain⟨h1,h2⟩:=AY.1 h
   exact⟨h2,by rw[hb,h1],rfl⟩
  ·rename_i hb
   split at h
   ·rename_i b hb2
    exact absurd hb2 (hb b)
   ·exact⟨h,rfl,rfl⟩
 ·rename_i ht
  rw[ht]at h
  exact⟨h,rfl,rfl⟩
section one
variable {c:Ctx} {st:aD} {D D':Nat->Prop} {β:aZ} {w:World}
theorem AG:∀{l:aD} {st:aD},bu c st D β w->(∀k o,look k l=some o->look k st=some o)->(l.map (·.1)).Nodup->
  bu c (cN (fJ l) st) D β w/\cX (aO c st β) w β (aO c (cN (fJ l) st) β) w β/\
   ∀k o,look k (jZ l)=some o->look k (cN (fJ l) st)=some o
 |[],st,h,_,_=>⟨h,cX.refl _ _ _,fun k o hk=>by simp[jZ,look]at hk⟩
 |(j,o)::l,st,h,hl,hn=>by
  simp only[List.map_cons,List.nodup_cons]at hn
  have hj:look j st=some o:=hl j o (by simp[look])
  have hne:∀k o',look k l=some o'->k≠j:=fun k o' hk e=>by
   subst e
   apply hn.1
   have:∀l:aD,look k l=some o'->k∈l.map (·.1):=by
    intro l
    induction l with
    |nil=>simp[look]
    |cons q l ih=>
     obtain⟨i,b⟩:=q
     simp only[look]
     split
     ·rename_i hh
      intro _
      have:i=k:=by simpa using hh
      simp[this]
     ·intro h2
      simp only[List.map_cons,List.mem_cons]
      exact .inr (ih h2)
   exact this l hk
  by_cases hc:(o.row&&o.wr)=true
  ·obtain⟨q1,q2⟩:=h.freeze hj
   have hl':∀k o',look k l=some o'->look k (put j {o with wr:=false} st)=some o':=fun k o' hk=>by
    rw[fN (hne k o' hk)]
    refine hl k o' ?_
    have:¬j=k:=fun e=>hne k o' hk e.symm
    simp[look,this,hk]
   obtain⟨r1,r2,r3⟩:=AG q1 hl' hn.2
   simp only[fJ,hc,if_true,cN]
   refine⟨r1,q2.trans r2,fun k o' hk=>?_⟩
   simp only[jZ,List.map_cons,look]at hk
   split at hk
   ·rename_i hjk
    have hjk':j=k:=by simpa using hjk
    subst hjk'
    simp only[Bool.and_eq_true]at hc
    rw[if_pos hc.1]at hk
    simp only[ax]at hk
    subst hk
    rw[kY]
    have:dm (fJ l) j=none:=by
     cases he:dm (fJ l) j with
     |none=>rfl
     |some r=>
      exfalso
      have hmem:∀l:aD,∀r,dm (fJ l) j=some r->∃o',look j l=some o':=by
       intro l
       induction l with
       |nil=>intro r h;simp[fJ,dm]at h
       |cons q l ih=>
        obtain⟨i,b⟩:=q
        intro r h
        by_cases hij:i=j
        ·exact⟨b,by simp[look,hij]⟩
        ·simp only[fJ]at h
         split at h
         ·simp only[dm]at h
          cases h3:dm (fJ l) j with
          |some r'=>
           obtain⟨o',ho'⟩:=ih r' h3
           exact⟨o',by simp[look,hij,ho']⟩
          |none=>rw[h3]at h;simp[hij]at h
         ·obtain⟨o',ho'⟩:=ih r h
          exact⟨o',by simp[look,hij,ho']⟩
      obtain⟨o',ho'⟩:=hmem l r he
      exact hne j o' ho' rfl
    rw[this]
    simp only[iT]
   ·exact r3 k o' (by simpa [jZ]using hk)
  ·have hl':∀k o',look k l=some o'->look k st=some o':=fun k o' hk=>by
    refine hl k o' ?_
    have:¬j=k:=fun e=>hne k o' hk e.symm
    simp[look,this,hk]
   obtain⟨r1,r2,r3⟩:=AG h hl' hn.2
   have hf:fJ ((j,o)::l)=fJ l:=by simp[fJ,hc]
   rw[hf]
   refine⟨r1,r2,fun k o' hk=>?_⟩
   simp only[jZ,List.map_cons,look]at hk
   split at hk
   ·rename_i hjk
    have hjk':j=k:=by simpa using hjk
    subst hjk'
    have ho:(if o.row=true then {o with wr:=false} else o)=o:=by
     split
     ·rename_i hr
      simp only[hr,Bool.true_and,Bool.not_eq_true]at hc
      cases o;simp_all
     ·rfl
    rw[ho]at hk
    simp only[ax]at hk
    subst hk
    rw[kY]
    have:dm (fJ l) j=none:=by
     cases he:dm (fJ l) j with
     |none=>rfl
     |some r=>
      exfalso
      have hmem:∀l:aD,∀r,dm (fJ l) j=some r->∃o',look j l=some o':=by
       intro l
       induction l with
       |nil=>intro r h;simp[fJ,dm]at h
       |cons q l ih=>
        obtain⟨i,b⟩:=q
        intro r h
        by_cases hij:i=j
        ·exact⟨b,by simp[look,hij]⟩
        ·simp only[fJ]at h
         split at h
         ·simp only[dm]at h
          cases h3:dm (fJ l) j with
          |some r'=>
           obtain⟨o',ho'⟩:=ih r' h3
           exact⟨o',by simp[look,hij,ho']⟩
          |none=>rw[h3]at h;simp[hij]at h
         ·obtain⟨o',ho'⟩:=ih r h
          exact⟨o',by simp[look,hij,ho']⟩
      obtain⟨o',ho'⟩:=hmem l r he
      exact hne j o' ho' rfl
    rw[this]
    exact hj
   ·exact r3 k o' (by simpa [jZ]using hk)
theorem xo:∀(e f:List (Nat×Option az)) (st:aD),cN (e++f) st=cN f (cN e st)
 |[],f,st=>rfl
 |(k,some o)::e,f,st=>by simp only[List.cons_append,cN,xo e]
 |(k,none)::e,f,st=>by simp only[List.cons_append,cN,xo e]
theorem aa3 {M:Nat->Prop} {x:Value} {v:AV} (h:ofConst x=some v):bJ M w β v x:=by
 unfold ofConst at h
 split at h
 ·simp only[ax]at h;subst h;exact bw.bP (.cz (.bool .nil) rfl)
 ·simp only[ax]at h;subst h;exact bw.bP (.cz (.int .nil) rfl)
 ·simp only[ax]at h;subst h;exact bw.bP (.cz (.vnil .nil) rfl)
 ·simp only[ax]at h;subst h;exact bw.bP (.cz (.void rfl .nil) rfl)
 ·simp only[ax]at h;subst h;exact bw.bP (.cz (.void rfl .nil) rfl)
 ·simp only[ax]at h;subst h;exact bw.bP (.cz (.str .nil) rfl)
 ·simp at h
theorem DJ {M:Nat->Prop} {s:aK} {a:Act} (h:nM M w β s.cS a.tmps):∀x v,s.gQ x=some v->bJ M w β v (a.eval x):=by
 intro x v hx
 cases x with
 |tmp t=>
  obtain⟨y,hy,hv⟩:=h t v hx
  simp only[Act.eval,Array.getD_eq_getD_getElem?,hy,Option.getD_some]
  exact hv
 |const y=>exact aa3 hx
 |global g=>simp[aK.gQ]at hx
 |func f=>
  simp only[aK.gQ,ax]at hx
  subst hx
  exact bw.bP (.cz (.func (vs:=[]) .nil rfl .nil) rfl)
theorem U5 {M:Nat->Prop} {ops:Array Oper} {sl:List (Nat×AV)} {a:Act} (h:nM M w β sl a.tmps) {o:Oper} {b:Bool} (hw:o4 ops.toList sl o=some b):
  Region.wanted o (yielded ops a.tmps)=b:=by
 unfold o4 at hw
 unfold Region.wanted
 cases hg:o.guard with
 |none=>rw[hg]at hw;simp only[ax]at hw;simp[hw]
 |some gw=>
  obtain⟨g,want⟩:=gw
  rw[hg]at hw
  simp only at hw ⊢
  cases hp:ops.toList[g]? with
  |none=>rw[hp]at hw;simp at hw
  |some p=>
   rw[hp]at hw
   simp only at hw
   cases hd:p.dst with
   |none=>rw[hd]at hw;simp at hw
   |some d=>
    rw[hd]at hw
    simp only at hw
    cases hl:look d sl with
    |none=>rw[hl]at hw;simp at hw
    |some v=>
     rw[hl]at hw
     cases v<;>try simp only[reduceCtorEq]at hw
     case tuple l=>
      cases l with
      |cons _ _=>simp at hw
      |nil=>
       simp only[ax]at hw
       subst hw
       obtain⟨x,hx,hv⟩:=h d _ hl
       obtain⟨xs,h1,h2⟩:=hv
       subst h1
       have hy:yielded ops a.tmps g=none:=by
        have hp':ops[g]?=some p:=by simpa using hp
        simp[yielded,hp',hd,hx]
       rw[hy]
       simp
     case bool t=>
      obtain⟨x,hx,hv⟩:=h d _ hl
      have:=hv.bool
      subst this
      have hy:yielded ops a.tmps g=some t:=by
       have hp':ops[g]?=some p:=by simpa using hp
       simp[yielded,hp',hd,hx]
      rw[hy]
      cases t<;>cases want<;>simp_all
theorem FT {T:Types} {Γ:aV} {K:Nat} {ρ:Operand->Option AV} {st:aD} {op:Op} {r:eu} (h:kZ T Γ K ρ st op=some r):∀c,op≠.defer c:=by
 rintro c rfl
 have h0:∀ρ',fm T Γ K ρ' st (.defer c)=none:=fun _=>rfl
 have h1:∀ρ',pY T Γ K ρ' st (.defer c)=none:=fun ρ'=>by
  unfold pY
  simp only[h0]
  split
  ·split<;>rfl
  ·split
   ·rfl
   ·rfl
 have h2:oN T ρ (.defer c)=none:=rfl
 have h3:oQ T st ρ (.defer c)=none:=rfl
 have h4:lH T Γ K ρ st (.defer c)=none:=rfl
 simp only[kZ,h2,h3,h4,h0,h1]at h
 revert h
 split<;>exact fun h=>by cases h
variable {P:Program} {T:Types} (hT:dJ P T) {Γ:aV} (hΓ:bg P Γ) {orc:List (Nat×Bool)}
include hT hΓ in
theorem E9 {ops:Array Oper} {nt N0 i:Nat} {sl:List (Nat×AV)} {a:Act} (hrel:Rel c nt D sl st a w) {o:Oper} {r:Rec} (hr:nc T Γ orc ops.toList ⟨sl,st,N0⟩ i o=some r) (need:r.res.need)
  (hdst:∀d,o.dst=some d->d<nt) (hD:∀k,D k->D' k) (hK:∀k,N0+cR*i<=k->k<N0+cR*i+cR->¬D k/\D' k) {K:Act->World->Prop} {Q:Exit->Act->World->Prop}
  (hn:∀a' w',Rel c nt D' (oT o.dst r.res.val sl) (cN r.res.ct st) a' w'->K a' w'):
  if Region.wanted o (yielded ops a.tmps)then o.wpIn (gL c.ro) 3 P a w K Q else(∀f,o.about P w a.eval=some f->(gL c.ro).fn f)/\K (a.put o.dst undef) w:=by
 obtain⟨hdef,hsz,β,hw,hs⟩:=hrel
 have hfin:∀{ct:List (Nat×Option az)} {v:AV} {x:Value} {w':World},eW c st D' β w ct v x w'->Rel c nt D' (oT o.dst v sl) (cN ct st) (a.put o.dst x) w':=by
  rintro ct v x w' ⟨β',q1,q2,q3⟩
  refine⟨?_,?_,β',q1,fun t u ht=>?_⟩
  ·have:=oX.iE hdef hw q2
   cases o.dst<;>simpa [Act.put]using this
  ·cases o.dst<;>simpa [Act.put]using hsz
  ·rw[wF]at ht
   split at ht
   ·rename_i hd
    simp only[ax]at ht
    subst ht
    have:=hdst t hd
    refine⟨x,?_,q3⟩
    simp only[hd,Act.put]
    exact Array.getElem?_setIfInBounds_self_of_lt (by rw[hsz];exact this)
   ·rename_i hd
    obtain⟨y,hy,hv⟩:=hs t u ht
    refine⟨y,?_,hv.iE q2⟩
    cases hdd:o.dst with
    |none=>simpa [Act.put]using hy
    |some d=>
     have hne:d≠t:=fun e=>hd (by rw[hdd,e])
     simp only[Act.put]
     rw[Array.getElem?_setIfInBounds_ne hne];exact hy
 unfold nc at hr
 simp only[force_eq]at hr
 cases hwa:o4 ops.toList sl o with
 |none=>rw[hwa]at hr;simp at hr
 |some b=>
  rw[hwa]at hr
  rw[U5 hs hwa]
  cases b with
  |false=>
   simp only[ax]at hr
   subst hr
   simp only[Bool.false_eq_true,if_false]
   exact⟨fun _ _=>trivial,hn _ _ (hfin (dP hw hD ⟨[],by simp[undef],trivial⟩))⟩
  |true=>
   simp only[if_true]
   simp only at hr
   have hρ:=DJ (s:=⟨sl,st,N0⟩) hs
   cases hop:kZ T Γ (N0+cR*i) (aK.gQ ⟨sl,st,N0⟩) (pick st (mw st (aK.gQ ⟨sl,st,N0⟩) o.op)) o.op with
   |some q=>
    rw[hop]at hr
    simp only[ax]at hr
    subst hr
    obtain⟨need,e1,e2⟩:=ML need
    simp only[e1,e2]at hn
    refine(LW hT hΓ hw (fun k o hk=>?_) hD hK hρ (fun _=>rfl) hop need).wpIn (FT hop) fun x w' hx=>hn _ _ (hfin hx)
    rw[lT]at hk
    split at hk
    ·exact hk
    ·simp at hk
   |none=>
    rw[hop]at hr
    simp only at hr
    cases hfe:fJ (pick st (mw st (aK.gQ ⟨sl,st,N0⟩) o.op))with
    |nil=>rw[hfe]at hr;simp at hr
    |cons e1 e2=>
     rw[hfe]at hr
     simp only at hr
     cases hop2:kZ T Γ (N0+cR*i) (aK.gQ ⟨sl,st,N0⟩) (jZ (pick st (mw st (aK.gQ ⟨sl,st,N0⟩) o.op))) o.op with
     |none=>rw[hop2]at hr;simp at hr
     |some q=>
      rw[hop2]at hr
      simp only[ax]at hr
      subst hr
      obtain⟨need,e1',_⟩:=ML need
      simp only[e1']at hn
      obtain⟨f1,f2,f3⟩:=AG (l:=pick st (mw st (aK.gQ ⟨sl,st,N0⟩) o.op)) hw (fun k o hk=>by
       rw[lT]at hk
       split at hk
       ·exact hk
       ·simp at hk) uB
      refine(LW hT hΓ f1 f3 hD hK (fun x v hx=>(hρ x v hx).iE f2) (fun _=>rfl) hop2 need).wpIn (FT hop2) fun x w' hx=>hn _ _ (hfin ?_)
      obtain⟨β',q1,q2,q3⟩:=hx
      rw[<-hfe]
      refine⟨β',?_,?_,?_⟩
      ·rw[xo];exact q1
      ·rw[xo];exact f2.trans q2
      ·rw[xo];exact q3
end one
end Go.Am
namespace Go.Am
open AV
section locality
variable {T:Types} {Γ:aV} {orc:List (Nat×Bool)}
theorem z9 {ρ ρ':Operand->Option AV}:∀{l:List Operand},(∀x∈l,ρ x=ρ' x)->eM ρ l=eM ρ' l
 |[],_=>rfl
 |x::l,h=>by
  have e:eM ρ l=eM ρ' l:=z9 fun y hy=>h y (List.mem_cons_of_mem _ hy)
  simp only[eM,h x (by simp),e]
theorem Ez {ρ ρ':Operand->Option AV}:∀{l:List (Nat×Operand)},(∀x∈l,ρ x.2=ρ' x.2)->jS ρ l=jS ρ' l
 |[],_=>rfl
 |(i,x)::l,h=>by
  have e:jS ρ l=jS ρ' l:=Ez fun y hy=>h y (List.mem_cons_of_mem _ hy)
  simp only[jS,h (i,x) (by simp),e]
theorem Fa {ρ ρ':Operand->Option AV}:∀{l:List Operand},(∀x∈l,ρ x=ρ' x)->mL ρ l=mL ρ' l
 |[],_=>rfl
 |x::l,h=>by
  have e:mL ρ l=mL ρ' l:=Fa fun y hy=>h y (List.mem_cons_of_mem _ hy)
  simp only[mL,h x (by simp),e]
theorem ad0 {ρ ρ':Operand->Option AV} {op:Op} (h:∀x∈op.operands.toList,ρ x=ρ' x):qE ρ op=qE ρ' op:=by
 have e:=Fa h
 unfold qE
 split
 ·rfl
 ·cases op<;>simp only[MZ]<;>try exact e
  case fieldAddr t x i hmv=>
   rw[h x (by simp[Op.operands])]
   split
   ·rfl
   ·exact e
  case indexAddr t x i hmv=>
   rw[h x (by simp[Op.operands])]
   split
   ·rfl
   ·exact e
theorem OP {ρ ρ':Operand->Option AV} {op:Op} (h:∀x∈op.operands.toList,ρ x=ρ' x):qi ρ op=qi ρ' op:=by
 cases op<;>try rfl
 case call c=>
  obtain⟨callee,args,argTypes⟩:=c
  cases callee<;>try rfl
  case value f=>
   have:=h f (by simp[Op.operands,Call.operands])
   simp only[qi,this]
theorem D9 {ρ:Operand->Option AV} {x:Operand} {v:AV} {k:Nat} (hx:ρ x=some v) (hk:k∈v.keys):∀{l:List Operand},x∈l->k∈mL ρ l
 |y::l,h=>by
  simp only[List.mem_cons]at h
  simp only[mL]
  rcases h with rfl|h
  ·rw[hx];exact List.mem_append_left _ hk
  ·cases ρ y with
   |none=>exact D9 hx hk h
   |some u=>exact List.mem_append_right _ (D9 hx hk h)
theorem aim {ρ:Operand->Option AV} {op:Op} {k:Nat} (h:k∈qi ρ op):k∈qE ρ op:=by
 cases op<;>try exact absurd h List.not_mem_nil
 case call c=>
  obtain⟨callee,args,argTypes⟩:=c
  cases callee<;>try exact absurd h List.not_mem_nil
  case value f=>
   simp only[qi]at h
   split at h
   ·rename_i g l hf
    exact D9 hf h (by simp[Op.operands,Call.operands])
   ·exact absurd h List.not_mem_nil
theorem Hz {st st':aD}:∀{l:List Nat},(∀k∈l,look k st=look k st')->mM st l=mM st' l
 |[],_=>rfl
 |k::l,h=>by
  have e:mM st l=mM st' l:=Hz fun j hj=>h j (List.mem_cons_of_mem _ hj)
  simp only[mM,h k (by simp),e]
theorem JD {st:aD} {ρ:Operand->Option AV} {op:Op}:mw st ρ op=qE ρ op++mM st (qi ρ op):=by
 unfold mw
 split
 ·rename_i h;rw[h,List.append_nil]
 ·rename_i h;rw[h]
theorem R9 {st st':aD} {ρ ρ':Operand->Option AV} {op:Op} (h:∀x∈op.operands.toList,ρ x=ρ' x) (hk:∀k∈mw st ρ op,look k st=look k st'):mw st ρ op=mw st' ρ' op:=by
 rw[JD]at hk ⊢
 rw[JD,<-ad0 h,<-OP h,Hz fun k hk'=>hk k (List.mem_append_left _ (aim hk'))]
theorem we {K:Nat} {ρ ρ':Operand->Option AV} {st:aD} {op:Op} (h:∀x∈op.operands.toList,ρ x=ρ' x):fm T Γ K ρ st op=fm T Γ K ρ' st op:=by
 cases op<;>simp only[Op.operands]at h<;>simp only[fm]
 case move x=>rw[h x (by simp)]
 case assign x=>rw[h x (by simp)]
 case pick a b c=>rw[h a (by simp),h b (by simp),h c (by simp)]
 case box t x=>rw[h x (by simp)]
 case build t ps=>rw[Ez fun p hp=>h p.2 (by simp;exact⟨p.1,by simpa using hp⟩)]
 case buildSlice t n ps=>rw[Ez fun p hp=>h p.2 (by simp;exact⟨p.1,by simpa using hp⟩)]
 case load t a=>rw[h a (by simp)]
 case store t a x=>rw[h a (by simp),h x (by simp)]
 case nilCheck x=>rw[h x (by simp)]
 case binOp o t x y u=>rw[h x (by simp),h y (by simp)]
 case unOp o t x=>rw[h x (by simp)]
 case convert a b x=>rw[h x (by simp)]
 case sliceToArrayPointer t x=>rw[h x (by simp)]
 case makeFunc f a b=>
  have e:eM ρ b.toList=eM ρ' b.toList:=z9 fun x hx=>h x (by simp at hx ⊢;exact .inr hx)
  cases f<;>simp only[e]
 case makeSlice t a b=>rw[h a (by simp),h b (by simp)]
 case slice t x lo hi mx=>
  have e1:∀d,cK ρ d lo=cK ρ' d lo:=fun d=>by
   cases lo with
   |none=>rfl
   |some y=>simp only[cK,h y (by simp)]
  have e2:∀d,cK ρ d hi=cK ρ' d hi:=fun d=>by
   cases hi with
   |none=>rfl
   |some y=>simp only[cK,h y (by simp)]
  have e3:∀d,cK ρ d mx=cK ρ' d mx:=fun d=>by
   cases mx with
   |none=>rfl
   |some y=>simp only[cK,h y (by simp)]
  simp only[h x (by simp),e1,e2,e3]
 case fieldAddr t x i=>rw[h x (by simp)]
 case field t x i=>rw[h x (by simp)]
 case indexAddr t x i=>rw[h x (by simp),h i (by simp)]
 case index t x i=>rw[h x (by simp),h i (by simp)]
 case extract x i=>rw[h x (by simp)]
 case call c=>
  have ha:∀x∈c.args.toList,ρ x=ρ' x:=fun x hx=>h x (by simp[Call.operands];right;simpa using hx)
  obtain⟨callee,args,argTypes⟩:=c
  cases callee with
  |value f=>simp only[jQ,z9 ha,h f (by simp[Call.operands])]
  |invoke r m=>simp[jQ]
  |builtin b=>cases b<;>simp only[jQ,z9 ha]
theorem rX {ρ ρ':Operand->Option AV} {d:Int} {x:Option Operand} (h:∀y,x=some y->ρ y=ρ' y):cK ρ d x=cK ρ' d x:=by
 cases x with
 |none=>rfl
 |some y=>simp only[cK,h y rfl]
theorem aau {ρ ρ':Operand->Option AV} {st:aD} {op:Op} (h:∀x∈op.operands.toList,ρ x=ρ' x):tX T ρ st op=tX T ρ' st op:=by
 cases op<;>simp only[tX]
 case load t a=>rw[h a (by simp[Op.operands])]
 case store t a x=>rw[h a (by simp[Op.operands])]
 case indexAddr t x ix=>rw[h x (by simp[Op.operands]),h ix (by simp[Op.operands])]
 case index t x ix=>rw[h ix (by simp[Op.operands])]
 case slice t x lo hi mx=>
  rw[h x (by simp[Op.operands])]
  have e1:∀d,cK ρ d lo=cK ρ' d lo:=fun d=>rX fun y hy=>h y (by simp[Op.operands,hy])
  have e2:∀d,cK ρ d hi=cK ρ' d hi:=fun d=>rX fun y hy=>h y (by simp[Op.operands,hy])
  have e3:∀d,cK ρ d mx=cK ρ' d mx:=fun d=>rX fun y hy=>h y (by simp[Op.operands,hy])
  simp only[e1,e2,e3]
theorem XG {ρ ρ':Operand->Option AV} {op:Op} (h:∀x∈op.operands.toList,ρ x=ρ' x):s9 T ρ op=s9 T ρ' op:=by
 cases op<;>simp only[s9]
 case binOp o t x y u=>rw[h x (by simp[Op.operands]),h y (by simp[Op.operands])]
 case convert s d x=>rw[h x (by simp[Op.operands])]
theorem M0 {K:Nat} {ρ ρ':Operand->Option AV} {st:aD} {op:Op} (h:∀x∈op.operands.toList,ρ x=ρ' x):kZ T Γ K ρ st op=kZ T Γ K ρ' st op:=by
 have h1:oN T ρ op=oN T ρ' op:=by
  cases op<;>simp only[oN]
  case binOp o t x y u=>rw[h x (by simp[Op.operands]),h y (by simp[Op.operands])]
 have h2:pY T Γ K (eF ρ) st op=pY T Γ K (eF ρ') st op:=by
  have e:∀x∈op.operands.toList,eF ρ x=eF ρ' x:=fun x hx=>by simp only[eF,h x hx]
  simp only[pY,we e,aau e,XG e]
 have h3:oQ T st ρ op=oQ T st ρ' op:=by
  cases op<;>simp only[oQ]
  case binOp o t x y u=>rw[h x (by simp[Op.operands]),h y (by simp[Op.operands])]
  case convert s d x=>rw[h x (by simp[Op.operands])]
  case index t x ix=>
   have e:=h ix (by simp[Op.operands])
   cases x<;>(try rfl)
   case const v=>cases v<;>(try rfl);simp only[e]
 have e:∀x∈op.operands.toList,eF ρ x=eF ρ' x:=fun x hx=>by simp only[eF,h x hx]
 have h4:lH T Γ K ρ st op=lH T Γ K ρ' st op:=by
  cases op<;>simp only[lH]
  case makeSlice t a b=>rw[we e,e b (by simp[Op.operands])]
  case slice t x lo hi mx=>
   have e1:∀d,cK ρ d lo=cK ρ' d lo:=fun d=>rX fun y hy=>h y (by simp[Op.operands,hy])
   have e2:∀d,cK ρ d hi=cK ρ' d hi:=fun d=>rX fun y hy=>h y (by simp[Op.operands,hy])
   have e3:∀d,cK ρ d mx=cK ρ' d mx:=fun d=>rX fun y hy=>h y (by simp[Op.operands,hy])
   cases mx with
   |some m=>
    simp only[lH]
    rw[e x (by simp[Op.operands])]
    simp only[e1,e2,e3]
   |none=>
    simp only[lH]
    rw[h x (by simp[Op.operands])]
    simp only[e1,e2]
  case call c=>
   have hc:jQ T Γ K ρ st c=jQ T Γ K ρ' st c:=we (op:=.call c) h
   have hcn:jQ T Γ K (eF ρ) st c=jQ T Γ K (eF ρ') st c:=we (op:=.call c) e
   have ha:∀x∈c.args.toList,ρ x=ρ' x:=fun x hx=>h x (by simp[Op.operands,Call.operands];right;simpa using hx)
   have e1:∀x,ρ x=ρ' x->eF ρ x=eF ρ' x:=fun x hx=>by simp only[eF,hx]
   rw[hc,hcn]
   obtain⟨callee,args,argTypes⟩:=c
   cases callee with
   |value f=>rfl
   |invoke r m=>rfl
   |builtin b=>
    cases b<;>try rfl
    all_goals
     simp only at ha ⊢
     generalize args.toList=l at ha ⊢
     cases argTypes[0]?<;>try rfl
     all_goals (try (cases argTypes[1]?<;>try rfl))
     all_goals
      match l,ha with
      |[],_=>rfl
      |[a],ha=>first|rfl|simp only[ha a (by simp)]
      |[a,b],ha=>first|rfl|simp only[ha a (by simp),e1 b (ha b (by simp))]
      |_::_::_::_,_=>rfl
 unfold kZ
 rw[h1,h2,h3,h4,we h]
theorem Ku {st st':aD}:∀{ks:List Nat},(∀k∈ks,look k st=look k st')->pick st ks=pick st' ks
 |[],_=>rfl
 |k::ks,h=>by
  have e:pick st ks=pick st' ks:=Ku fun j hj=>h j (List.mem_cons_of_mem _ hj)
  simp only[pick,h k (by simp),e]
theorem ad2 {opsL:List Oper} {s s':aK} {i:Nat} {o:Oper} {r:Rec} (h:nc T Γ orc opsL s i o=some r) (hsl:∀t∈z8 opsL o,look t s.cS=look t s'.cS)
  (hk:∀k∈r.asks,look k s.store=look k s'.store) (hn:s.next=s'.next):nc T Γ orc opsL s' i o=some r:=by
 have hw:o4 opsL s.cS o=o4 opsL s'.cS o:=by
  unfold o4
  cases hg:o.guard with
  |none=>rfl
  |some gw=>
   obtain⟨g,want⟩:=gw
   simp only
   cases hp:opsL[g]? with
   |none=>rfl
   |some p=>
    simp only
    cases hd:p.dst with
    |none=>rfl
    |some d=>
     simp only
     rw[hsl d (by simp[z8,hg,hp,hd])]
 have hρ:∀x∈o.op.operands.toList,s.gQ x=s'.gQ x:=fun x hx=>by
  cases x with
  |tmp t=>exact hsl t (by
    simp only[z8,List.mem_append,List.mem_filterMap]
    exact .inl ⟨_,hx,rfl⟩)
  |_=>rfl
 unfold nc at h ⊢
 simp only[force_eq]at h ⊢
 rw[<-hw]
 cases hb:o4 opsL s.cS o with
 |none=>rw[hb]at h;simp at h
 |some b=>
  rw[hb]at h
  cases b with
  |false=>exact h
  |true=>
   simp only at h ⊢
   rw[<-hn]
   have hasks:r.asks=mw s.store s.gQ o.op:=by
    split at h
    ·simp only[ax]at h;subst h;rfl
    ·split at h
     ·simp at h
     ·split at h
      ·simp only[ax]at h;subst h;rfl
      ·simp at h
   rw[hasks]at hk
   rw[<-R9 hρ hk,<-Ku hk,<-M0 hρ]
   have:∀st',kZ T Γ (s.next+cR*i) s'.gQ st' o.op=kZ T Γ (s.next+cR*i) s.gQ st' o.op:=fun st'=>(M0 hρ).symm
   simp only[this]
   exact h
end locality
def eH {α:Type} (W:Nat->Option α) (S:Nat->Bool):Nat->Option α
 |0=>none
 |n+1=>if S n then(match W n with
  |some v=>some v
  |none=>eH W S n)else eH W S n
theorem nK {α:Type} {W:Nat->Option α} {S S':Nat->Bool}:∀{n:Nat},(∀j,j<n->W j≠none->S j=S' j)->eH W S n=eH W S' n
 |0,_=>rfl
 |n+1,h=>by
  have ih:=nK (W:=W) (S:=S) (S':=S') (n:=n) fun j hj=>h j aa
  simp only[eH]
  cases hW:W n with
  |none=>cases S n<;>cases S' n<;>simp[ih]
  |some v=>rw[h n aa (by simp[hW]),ih]
theorem DY {α:Type} {W:Nat->Option α} {S:Nat->Bool} {i:Nat} (hi:S i=false):∀{n:Nat},i<n->(∀j,i<j->j<n->S j=true->W j=none)->
  eH W (fun j=>S j||j==i) n=match W i with
   |some v=>some v
   |none=>eH W S n
 |0,h,_=>aa
 |n+1,h,hl=>by
  simp only[eH]
  by_cases hn:n=i
  ·subst hn
   have:eH W (fun j=>S j||j==n) n=eH W S n:=nK fun j hj _=>by
    have:(j==n)=false:=by simp;omega
    simp[this]
   simp[hi,this]
  ·have ih:=DY (W:=W) hi (n:=n) aa fun j h1 h2=>hl j h1 aa
   have hni:(n==i)=false:=by simpa using hn
   simp only[hni,Bool.or_false]
   cases hS:S n with
   |false=>simpa [hS]using ih
   |true=>
    have:=hl n aa aa hS
    simp[this,ih]
def jV (S:Nat->Bool):Nat->Nat
 |0=>0
 |n+1=>jV S n+if S n then 0 else 1
theorem IA {S:Nat->Bool}:∀{n:Nat},jV S n=0->∀i,i<n->S i=true
 |0,_,i,h=>aa
 |n+1,h,i,hi=>by
  simp only[jV]at h
  by_cases hn:i=n
  ·subst hn
   cases hs:S i with
   |true=>rfl
   |false=>rw[hs]at h;simp at h
  ·exact IA (n:=n) aa i aa
theorem Ft {S:Nat->Bool} {i:Nat} (hi:S i=false):∀{n:Nat},i<n->jV (fun j=>S j||j==i) n+1=jV S n
 |0,h=>aa
 |n+1,h=>by
  simp only[jV]
  by_cases hn:n=i
  ·subst hn
   have:jV (fun j=>S j||j==n) n=jV S n:=by
    have:∀m,m<=n->jV (fun j=>S j||j==n) m=jV S m:=by
     intro m
     induction m with
     |zero=>intro _;rfl
     |succ m ih=>
      intro hm
      have h1:(m==n)=false:=by simp;omega
      simp only[jV,h1,Bool.or_false,ih aa]
    exact this n aR
   simp[hi,this]
  ·have ih:=Ft (S:=S) hi (n:=n) aa
   have hni:(n==i)=false:=by simpa using hn
   simp only[hni,Bool.or_false]
   omega
theorem RB {n:Nat}:jV (fun _=>false) n=n:=by
 induction n with
 |zero=>rfl
 |succ n ih=>simp[jV,ih]
theorem s7 {a b:List Nat} {x:Nat} (ha:x∈a) (hb:x∈b):meet a b=true:=by
 simp only[meet,List.any_eq_true]
 exact⟨x,ha,x,hb,by simp⟩
def Down (opsL:List Oper) (S:Nat->Bool):Prop:=∀(i:Nat) (o:Oper),opsL[i]?=some o->S i=true->∀e∈o.after.toList,Region.binds .any e=true->S e.on=true
theorem Gi {acc:List Nat} {j:Nat}:∀(es:List Edge) (m:Nat),(es.foldl (fun m e=>if Region.binds .any e then m|||(1<<<e.on)|||acc.getD e.on 0 else m) m).testBit j=true->
  m.testBit j=true\/∃e∈es,Region.binds .any e=true/\(j=e.on\/(acc.getD e.on 0).testBit j=true)
 |[],m,h=>.inl h
 |e::es,m,h=>by
  simp only[List.foldl_cons]at h
  rcases Gi es _ h with h1|⟨e',h1,h2,h3⟩
  ·split at h1
   ·rename_i hb
    simp only[Nat.testBit_or,Bool.or_eq_true]at h1
    rcases h1 with(h1|h1)|h1
    ·exact .inl h1
    ·refine .inr ⟨e,by simp,hb,.inl ?_⟩
     simp only[Nat.one_shiftLeft,Nat.testBit_two_pow,bz]at h1
     exact h1.symm
    ·exact .inr ⟨e,by simp,hb,.inr h1⟩
   ·exact .inl h1
  ·exact .inr ⟨e',by simp[h1],h2,h3⟩
theorem Ot {opsL:List Oper} {S:Nat->Bool} (hd:Down opsL S):∀(l done:List Oper) (acc:List Nat),opsL=done++l->acc.length=done.length->
  (∀(i m:Nat) (o:Oper),acc[i]?=some m->opsL[i]?=some o->(∀e∈o.after.toList,Region.binds .any e=true->S e.on=true)->∀j,m.testBit j=true->S j=true)->
  (pI l acc).length=opsL.length/\∀(i m:Nat) (o:Oper),(pI l acc)[i]?=some m->opsL[i]?=some o->(∀e∈o.after.toList,Region.binds .any e=true->S e.on=true)->∀j,m.testBit j=true->S j=true
 |[],done,acc,he,hl,h=>by simp only[pI];exact⟨by rw[hl,he];simp,h⟩
 |o::l,done,acc,he,hl,h=>by
  simp only[pI]
  refine Ot hd l (done++[o]) _ (by simp[he]) (by simp[hl]) fun i m p hi hp hedge j hj=>?_
  by_cases hlt:i<acc.length
  ·rw[List.getElem?_append_left hlt]at hi
   exact h i m p hi hp hedge j hj
  ·have hil:i<(acc++[o.after.toList.foldl (fun m e=>if Region.binds .any e then m|||(1<<<e.on)|||acc.getD e.on 0 else m) 0]).length:=(List.getElem?_eq_some_iff.1 hi).1
   simp only[List.length_append,List.length_cons,List.length_nil]at hil
   have hi':i=acc.length:=aa
   subst hi'
   simp only[List.getElem?_concat_length,ax]at hi
   subst hi
   have hpo:p=o:=by
    rw[he,hl]at hp
    simpa using hp.symm
   subst hpo
   rcases Gi _ _ hj with h1|⟨e,h1,h2,h3⟩
   ·simp at h1
   ·rcases h3 with rfl|h3
    ·exact hedge e h1 h2
    ·rw[List.getD_eq_getElem?_getD]at h3
     cases hm:acc[e.on]? with
     |none=>rw[hm]at h3;simp at h3
     |some m'=>
      rw[hm]at h3
      have hlt2:=(List.getElem?_eq_some_iff.1 hm).1
      have ho:∃p',opsL[e.on]?=some p':=by
       rw[he]
       exact⟨_,List.getElem?_eq_getElem (by simp;omega)⟩
      obtain⟨p',hp'⟩:=ho
      exact h e.on m' p' hm hp' (hd e.on p' hp' (hedge e h1 h2)) j h3
theorem vc {ops:List Oper}:∀{l:List Oper} {rs:List Rec} {as':List Nat} {i:Nat} {o:Oper} {r:Rec} {a:Nat},l[i]?=some o->rs[i]?=some r->as'[i]?=some a->
  (sP l rs as' ops)[i]?=some (lQ ops o r,a)
 |o'::l,r'::rs,a'::as',0,o,r,a,h1,h2,h3=>by simp at h1 h2 h3;subst h1;subst h2;subst h3;simp[sP]
 |o'::l,r'::rs,a'::as',i+1,o,r,a,h1,h2,h3=>by
  simp only[sP,List.getElem?_cons_succ]
  exact vc (by simpa using h1) (by simpa using h2) (by simpa using h3)
 |[],_,_,i,o,r,a,h1,_,_=>by simp at h1
 |_::_,[],_,i,o,r,a,_,h2,_=>by simp at h2
 |_::_,_::_,[],i,o,r,a,_,_,h3=>by simp at h3
theorem M5 {i:Nat} {t:Touch}:∀{l:List (Touch×Nat)} {j:Nat} {u:Touch} {a:Nat},wR i t l=true->l[j]?=some (u,a)->t.mE u=true->a.testBit i=true
 |[],j,u,a,_,h,_=>by simp at h
 |(u',a')::l,0,u,a,h,hj,hc=>by
  simp at hj
  obtain⟨rfl,rfl⟩:=hj
  simp only[wR,Bool.and_eq_true,Bool.or_eq_true,Bool.not_eq_true']at h
  rcases h.1 with h1|h1
  ·rw[hc]at h1;simp at h1
  ·exact h1
 |(u',a')::l,j+1,u,a,h,hj,hc=>by
  simp only[wR,Bool.and_eq_true]at h
  exact M5 h.2 (by simpa using hj) hc
theorem Bv:∀{l:List (Touch×Nat)} {b i j:Nat} {t u:Touch} {a a':Nat},sI l b=true->l[i]?=some (t,a)->l[j]?=some (u,a')->i<j->t.mE u=true->a'.testBit (b+i)=true
 |[],b,i,j,t,u,a,a',_,h,_,_,_=>by simp at h
 |(t',x)::l,b,0,j,t,u,a,a',h,hi,hj,hij,hc=>by
  simp at hi
  obtain⟨rfl,rfl⟩:=hi
  simp only[sI,Bool.and_eq_true]at h
  cases j with
  |zero=>omega
  |succ j=>simpa using M5 h.1 (by simpa using hj) hc
 |(t',x)::l,b,i+1,j,t,u,a,a',h,hi,hj,hij,hc=>by
  simp only[sI,Bool.and_eq_true]at h
  cases j with
  |zero=>omega
  |succ j=>
   have:=Bv h.2 (by simpa using hi) (by simpa using hj) aa hc
   have e:b+1+i=b+(i+1):=aa
   rwa [e]at this
theorem Kf:∀{l:List Oper} {b i:Nat} {o:Oper},rW l b=true->l[i]?=some o->∀e∈o.after.toList,Region.binds .any e=true->e.on<b+i
 |[],b,i,o,_,h,_,_,_=>by simp at h
 |o'::l,b,0,o,h,hi,e,he,hb=>by
  simp at hi
  subst hi
  simp only[rW,Bool.and_eq_true,List.all_eq_true,Bool.or_eq_true,Bool.not_eq_true',bz]at h
  rcases h.1 e he with h1|h1
  ·rw[hb]at h1;simp at h1
  ·simpa using h1
 |o'::l,b,i+1,o,h,hi,e,he,hb=>by
  simp only[rW,Bool.and_eq_true]at h
  have:=Kf h.2 (by simpa using hi) e he hb
  omega
end Go.Am
namespace Go.Am
open AV
theorem CB {α:Type} {W:Nat->Option α}:∀{n:Nat},eH W (fun _=>true) (n+1)=match eH (fun q=>W (q+1)) (fun _=>true) n with
  |some v=>some v
  |none=>W 0
 |0=>by simp only[eH,if_true];cases W 0<;>rfl
 |n+1=>by
  have ih:=CB (W:=W) (n:=n)
  rw[eH,if_pos rfl,ih]
  simp only[eH,if_true]
  cases W (n+1)<;>rfl
def jH (l:List Oper) (rs:List Rec) (t:Nat) (q:Nat):Option AV:=
 match l[q]?,rs[q]? with
 |some o,some r=>if o.dst=some t then some r.res.val else none
 |_,_=>none
def jB (l:List Oper) (rs:List Rec) (k:Nat) (q:Nat):Option (Option az):=
 match l[q]?,rs[q]? with
 |some _,some r=>dm r.res.ct k
 |_,_=>none
def orElse {α:Type} (a:Option α) (b:Option α):Option α:=match a with
 |some v=>some v
 |none=>b
def s6 (a:Option (Option az)) (b:Option az):Option az:=match a with
 |some r=>r
 |none=>b
section trace
variable {T:Types} {Γ:aV} {orc:List (Nat×Bool)}
theorem Ey {opsL:List Oper}:∀(l:List Oper) (i:Nat) (s s':aK) (need:List Prop) (rs:List Rec),kT T Γ orc opsL l i s=some (s',need,rs)->
  rs.length=l.length/\(au need->∀r∈rs,r.res.need)/\s'.next=s.next/\
  (∀t,look t s'.cS=orElse (eH (jH l rs t) (fun _=>true) l.length) (look t s.cS))/\(∀k,look k s'.store=s6 (eH (jB l rs k) (fun _=>true) l.length) (look k s.store))/\
  ∀(p:Nat) (o:Oper) (r:Rec),l[p]?=some o->rs[p]?=some r->∃sp:aK,nc T Γ orc opsL sp (i+p) o=some r/\sp.next=s.next/\
   (∀t,look t sp.cS=orElse (eH (jH l rs t) (fun _=>true) p) (look t s.cS))/\(∀k,look k sp.store=s6 (eH (jB l rs k) (fun _=>true) p) (look k s.store))
 |[],i,s,s',need,rs,h=>by
  simp only[kT,ax,Prod.mk.injEq]at h
  obtain⟨rfl,rfl,rfl⟩:=h
  exact⟨rfl,fun _ r hr=>by simp at hr,rfl,fun t=>rfl,fun k=>rfl,fun p o r hp=>by simp at hp⟩
 |o::l,i,s,s',need,rs,h=>by
  simp only[kT]at h
  cases hr:nc T Γ orc opsL s i o with
  |none=>rw[hr]at h;simp at h
  |some r=>
   rw[hr]at h
   simp only at h
   cases ht:kT T Γ orc opsL l (i+1) (oe s o r.res)with
   |none=>rw[ht]at h;simp at h
   |some q=>
    obtain⟨s1,n1,rs1⟩:=q
    rw[ht]at h
    simp only[ax,Prod.mk.injEq]at h
    obtain⟨rfl,rfl,rfl⟩:=h
    obtain⟨h1,h2,h3,h4,h5,h6⟩:=Ey l (i+1) (oe s o r.res) s1 n1 rs1 ht
    have eS:∀t,(fun q=>jH (o::l) (r::rs1) t (q+1))=jH l rs1 t:=fun t=>by funext q;simp[jH]
    have eK:∀k,(fun q=>jB (o::l) (r::rs1) k (q+1))=jB l rs1 k:=fun k=>by funext q;simp[jB]
    have gS:∀t n,orElse (eH (jH l rs1 t) (fun _=>true) n) (look t (oe s o r.res).cS)=orElse (eH (jH (o::l) (r::rs1) t) (fun _=>true) (n+1)) (look t s.cS):=fun t n=>by
     rw[CB,eS]
     cases eH (jH l rs1 t) (fun _=>true) n with
     |some v=>rfl
     |none=>
      simp only[orElse,oe,wF,jH,List.getElem?_cons_zero]
      split<;>rfl
    have gK:∀k n,s6 (eH (jB l rs1 k) (fun _=>true) n) (look k (oe s o r.res).store)=s6 (eH (jB (o::l) (r::rs1) k) (fun _=>true) (n+1)) (look k s.store):=fun k n=>by
     rw[CB,eK]
     cases eH (jB l rs1 k) (fun _=>true) n with
     |some v=>rfl
     |none=>
      simp only[s6,oe,kY,jB,List.getElem?_cons_zero]
      cases dm r.res.ct k<;>rfl
    refine⟨by simp[h1],fun hn r' hr'=>?_,h3,fun t=>?_,fun k=>?_,fun p o' r' hp hrp=>?_⟩
    ·rcases List.mem_cons.1 hr' with rfl|hr'
     ·exact(dN.1 hn).1
     ·exact h2 (dN.1 hn).2 r' hr'
    ·rw[h4 t,gS];rfl
    ·rw[h5 k,gK];rfl
    ·cases p with
     |zero=>
      simp only[List.getElem?_cons_zero,ax]at hp hrp
      subst hp;subst hrp
      exact⟨s,hr,rfl,fun t=>rfl,fun k=>rfl⟩
     |succ p=>
      obtain⟨sp,a1,a2,a3,a4⟩:=h6 p o' r' (by simpa using hp) (by simpa using hrp)
      refine⟨sp,by rw[<-a1];congr 1;omega,a2,fun t=>?_,fun k=>?_⟩
      ·rw[a3 t,gS]
      ·rw[a4 k,gK]
end trace
section region
variable {c:Ctx} {P:Program} {T:Types} (hT:dJ P T) {Γ:aV} (hΓ:bg P Γ) {orc:List (Nat×Bool)}
theorem bu.ext {st st':aD} {D:Nat->Prop} {β:aZ} {w:World} (h:bu c st D β w) (he:∀k,look k st=look k st'):bu c st' D β w/\aO c st' β=aO c st β:=by
 have hM:aO c st' β=aO c st β:=by
  funext b
  simp only[aO,he]
 refine⟨?_,hM⟩
 refine {h with obj:=fun k o hk x hx=>?_,dM:=fun k o hk=>h.dM k o (by rw[he];exact hk),inj:=fun k k' o o' b N N' h1 h2=>?_,new:=fun k o b N h1=>?_}
 ·rw[hM];exact h.obj k o (by rw[he];exact hk) x hx
 ·exact h.inj k k' o o' b N N' (by rw[he];exact h1) (by rw[he];exact h2)
 ·exact h.new k o b N (by rw[he];exact h1)
theorem Rel.ext {nt:Nat} {D D':Nat->Prop} {sl sl':List (Nat×AV)} {st st':aD} {a:Act} {w:World} (h:Rel c nt D sl st a w) (h1:∀t,look t sl=look t sl') (h2:∀k,look k st=look k st')
  (hD:∀k,D k->D' k):Rel c nt D' sl' st' a w:=by
 obtain⟨a1,a2,β,a3,a4⟩:=h
 obtain⟨b1,b2⟩:=a3.ext h2
 refine⟨a1,a2,β,b1.lK hD,fun t v ht=>?_⟩
 rw[b2]
 exact a4 t v (by rw[h1];exact ht)
theorem LI {ops:Array Oper} {i:Nat} {o:Oper} (ho:ops[i]?=some o) {a:Act} {w:World} {K:Act->World->Prop} {Q:Exit->Act->World->Prop}
  (h:if Region.wanted o (yielded ops a.tmps)then o.wpIn (gL c.ro) 3 P a w K Q else(∀f,o.about P w a.eval=some f->(gL c.ro).fn f)/\K (a.put o.dst undef) w):wpOpIn (gL c.ro) 3 P ops Q i K a w:=by
 unfold wpOpIn
 simp only[ho]
 split
 ·rename_i hw;rw[if_pos hw]at h;exact h
 ·rename_i hw;rw[if_neg hw]at h;exact h
def Il (N0 n:Nat) (S:Nat->Bool) (k:Nat):Prop:=k<N0\/∃i,i<n/\S i=true/\N0+cR*i<=k/\k<N0+cR*i+cR
theorem XM {N0 i j k:Nat} (h1:N0+cR*i<=k) (h2:k<N0+cR*i+cR) (h3:N0+cR*j<=k) (h4:k<N0+cR*j+cR):i=j:=by
 simp only[cR]at*
 omega
include hT hΓ in
theorem Lp {ops:Array Oper} {nt N0:Nat} (hdst:∀o∈ops.toList,∀d,o.dst=some d->d<nt) {Q:Exit->Act->World->Prop}:
  ∀(l done:List Oper) (s s':aK) (need:List Prop) (rs:List Rec) (a:Act) (w:World),ops.toList=done++l->s.next=N0->kT T Γ orc ops.toList l done.length s=some (s',need,rs)->au need->
   Rel c nt (fun k=>k<N0+cR*done.length) s.cS s.store a w->
   (∀a' w',Rel c nt (fun k=>k<N0+cR*ops.size) s'.cS s'.store a' w'->Q .normal a' w')->wpOpsIn (gL c.ro) 3 P ops Q (List.range' done.length l.length) a w
 |[],done,s,s',need,rs,a,w,hops,hN,hr,hn,hrel,hQ=>by
  simp only[kT,ax,Prod.mk.injEq]at hr
  obtain⟨rfl,rfl,rfl⟩:=hr
  simp only[List.length_nil,List.range'_zero,wpOpsIn]
  refine hQ a w (hrel.ext (fun _=>rfl) (fun _=>rfl) fun k hk=>?_)
  have:ops.size=done.length:=by rw[<-Array.length_toList,hops];simp
  rw[this];exact hk
 |o::l,done,s,s',need,rs,a,w,hops,hN,hr,hn,hrel,hQ=>by
  simp only[kT]at hr
  cases hrec:nc T Γ orc ops.toList s done.length o with
  |none=>rw[hrec]at hr;simp at hr
  |some r=>
   rw[hrec]at hr
   simp only at hr
   cases ht:kT T Γ orc ops.toList l (done.length+1) (oe s o r.res)with
   |none=>rw[ht]at hr;simp at hr
   |some q=>
    obtain⟨s1,n1,rs1⟩:=q
    rw[ht]at hr
    simp only[ax,Prod.mk.injEq]at hr
    obtain⟨rfl,rfl,rfl⟩:=hr
    rw[List.length_cons,List.range'_succ,wpOpsIn_cons]
    have ho:ops[done.length]?=some o:=by rw[<-Array.getElem?_toList,hops];simp
    refine LI ho (E9 (D':=fun k=>k<N0+cR*(done++[o]).length) hT hΓ (N0:=s.next) (i:=done.length) hrel (by cases s;exact hrec) (dN.1 hn).1
     (fun d hd=>hdst o (by rw[hops];simp) d hd) (fun k hk=>?_) (fun k h1 h2=>?_) fun a' w' hrel'=>?_)
    ·simp only[List.length_append,List.length_cons,List.length_nil,cR]at hk ⊢;omega
    ·simp only[List.length_append,List.length_cons,List.length_nil,cR]at h1 h2 ⊢;omega
    ·have:=Lp hdst l (done++[o]) (oe s o r.res) s1 n1 rs1 a' w' (by simp[hops]) hN (by simpa using ht) (dN.1 hn).2 hrel' hQ
     simpa using this
theorem CL {α:Type} {W:Nat->Option α} {i:Nat}:∀{n:Nat},i<=n->eH W (fun j=>decide (j<i)) n=eH W (fun _=>true) i
 |0,h=>by
    have:i=0:=aa
    subst this;rfl
 |n+1,h=>by
  by_cases hn:i=n+1
  ·subst hn
   exact nK fun j hj _=>by simpa using hj
  ·have ih:=CL (W:=W) (i:=i) (n:=n) aa
   have:decide (n<i)=false:=by simp;omega
   simp only[eH,this,Bool.false_eq_true,if_false]
   exact ih
theorem zT {k:Nat}:∀{ct:List (Nat×Option az)} {r:Option az},dm ct k=some r->k∈ct.map (·.1)
 |[],r,h=>by simp[dm]at h
 |(j,o)::l,r,h=>by
  simp only[dm]at h
  cases he:dm l k with
  |some r'=>simp only[List.map_cons,List.mem_cons];exact .inr (zT he)
  |none=>
   rw[he]at h
   simp only at h
   split at h
   ·rename_i hjk
    have:j=k:=by simpa using hjk
    simp[this]
   ·simp at h
theorem SY {l:Array Bool} {i j:Nat} (hi:i<l.size):(l.setIfInBounds i true).getD j false=(l.getD j false||j==i):=by
 simp only[Array.getD_eq_getD_getElem?,Array.getElem?_setIfInBounds]
 by_cases h:i=j
 ·subst h;simp[hi]
 ·have:(j==i)=false:=by simp;omega
  simp[h,this]
include hT hΓ in
theorem QC {ops:Array Oper} {nt:Nat} (hdst:∀o∈ops.toList,∀d,o.dst=some d->d<nt) {Q:Exit->Act->World->Prop} {s s':aK} {need:List Prop} {rs:List Rec}
  (hrun:kT T Γ orc ops.toList ops.toList 0 s=some (s',need,rs)) (hneed:au need) (hE:rW ops.toList 0=true) (hA:sI (sP ops.toList rs (pI ops.toList []) ops.toList) 0=true)
  (hQ:∀a' w',Rel c nt (fun k=>k<s.next+cR*ops.size) s'.cS s'.store a' w'->Q .normal a' w') {a:Act} {w:World} (hrel:Rel c nt (fun k=>k<s.next) s.cS s.store a w):
  wpAnyIn (gL c.ro) 3 P .any ops Q ops.size (Array.replicate ops.size false) a w:=by
 obtain⟨t1,t2,t3,t4,t5,t6⟩:=Ey ops.toList 0 s s' need rs hrun
 have hsz:ops.toList.length=ops.size:=Array.length_toList
 -- the invariant
 let Inv:(Nat->Bool)->Act->World->Prop:=fun S a w=>∃sl st,(∀t,look t sl=orElse (eH (jH ops.toList rs t) S ops.size) (look t s.cS))/\
  (∀k,look k st=s6 (eH (jB ops.toList rs k) S ops.size) (look k s.store))/\Rel c nt (Il s.next ops.size S) sl st a w
 have hend:∀(S:Nat->Bool) (a:Act) (w:World),(∀i,i<ops.size->S i=true)->Inv S a w->Q .normal a w:=by
  rintro S a w hall ⟨sl,st,h1,h2,h3⟩
  refine hQ a w (h3.ext (fun t=>?_) (fun k=>?_) fun k hk=>?_)
  ·rw[h1 t,t4 t,hsz]
   congr 1
   exact nK fun j hj _=>hall j hj
  ·rw[h2 k,t5 k,hsz]
   congr 1
   exact nK fun j hj _=>hall j hj
  ·rcases hk with hk|⟨i,hi,_,_,hk⟩
   ·simp only[cR]at*;omega
   ·simp only[cR]at*;omega
 have main:∀(fuel:Nat) (listed:Array Bool) (a:Act) (w:World),listed.size=ops.size->Down ops.toList (fun i=>listed.getD i false)->jV (fun i=>listed.getD i false) ops.size<=fuel->
   Inv (fun i=>listed.getD i false) a w->wpAnyIn (gL c.ro) 3 P .any ops Q fuel listed a w:=by
  intro fuel
  induction fuel with
  |zero=>
   intro listed a w hl hd hlk hinv
   have hall:=IA (show jV (fun i=>listed.getD i false) ops.size=0 by omega)
   refine⟨?_,hend _ a w hall hinv⟩
   simp only[Region.ready,List.filter_eq_nil_iff,List.mem_range,Bool.and_eq_true,Bool.not_eq_true',not_and]
   intro i hi h
   have:=hall i hi
   simp only[Array.getD_eq_getD_getElem?]at this h
   rw[Array.getElem?_eq_getElem aa]at this h
   simp at this h
   rw[this]at h;simp at h
  |succ fuel ih=>
   intro listed a w hl hd hlk hinv
   have hgd:∀i,i<ops.size->listed.getD i true=listed.getD i false:=fun i hi=>by
    simp only[Array.getD_eq_getD_getElem?]
    rw[Array.getElem?_eq_getElem aa];rfl
   have hready:∀i,i∈Region.ready .any ops listed↔i<ops.size/\listed.getD i false=false/\∀o,ops.toList[i]?=some o->∀e∈o.after.toList,Region.binds .any e=true->listed.getD e.on false=true:=fun i=>by
    simp only[Region.ready,List.mem_filter,List.mem_range,Bool.and_eq_true,Bool.not_eq_true']
    constructor
    ·rintro⟨h1,h2,h3⟩
     refine⟨h1,by rw[<-hgd i h1];exact h2,fun o ho e he hb=>?_⟩
     have ho':ops[i]?=some o:=by simpa using ho
     rw[ho']at h3
     simp only[Option.map_some,Option.getD_some,Array.all_eq_true_iff_forall_mem,Bool.or_eq_true,Bool.not_eq_true']at h3
     rcases h3 e (by simpa using he)with h4|h4
     ·rw[hb]at h4;simp at h4
     ·exact h4
    ·rintro⟨h1,h2,h3⟩
     refine⟨h1,by rw[hgd i h1];exact h2,?_⟩
     have ho':ops[i]?=some ops[i]:=Array.getElem?_eq_getElem h1
     rw[ho']
     simp only[Option.map_some,Option.getD_some,Array.all_eq_true_iff_forall_mem,Bool.or_eq_true,Bool.not_eq_true']
     intro e he
     cases hb:Region.binds .any e with
     |false=>exact .inl rfl
     |true=>exact .inr (h3 ops[i] (by simp[h1]) e (by simpa using he) hb)
   refine⟨fun hnil=>?_,fun i hi=>?_⟩
   ·refine hend _ a w (fun i=>?_) hinv
    induction i using Nat.strongRecOn with
    |_ i ihi=>
     intro hi
     cases hl':listed.getD i false with
     |true=>rfl
     |false=>
      have:i∈Region.ready .any ops listed:=(hready i).2 ⟨hi,hl',fun o ho e he hb=>by
       have hlt:=Kf hE ho e he hb
       exact ihi e.on aa aa⟩
      rw[hnil]at this
      simp at this
   ·obtain⟨h1,h2,h3⟩:=(hready i).1 hi
    have ho:ops.toList[i]?=some ops[i]:=by simp[h1]
    generalize ops[i]=o at ho
    obtain⟨r,hr⟩:∃r,rs[i]?=some r:=⟨_,List.getElem?_eq_getElem aa⟩
    obtain⟨sp,q1,q2,q3,q4⟩:=t6 i o r ho hr
    rw[Nat.zero_add]at q1
    have hi2:listed.getD i false=false:=h2
    have hanc:=Ot hd ops.toList [] [] rfl rfl (fun i m o h=>by simp at h)
    -- order of what clashes
    have hclash:∀(j:Nat) (o':Oper) (r':Rec),ops.toList[j]?=some o'->rs[j]?=some r'->j≠i->
      ((lQ ops.toList o' r').mE (lQ ops.toList o r)=true/\j<i\/(lQ ops.toList o r).mE (lQ ops.toList o' r')=true/\i<j)->listed.getD j false=decide (j<i):=by
     intro j o' r' hj hrj hne hc
     have hai:∀q (o:Oper),ops.toList[q]?=some o->∃m,(pI ops.toList [])[q]?=some m:=fun q o hq=>
      ⟨_,List.getElem?_eq_getElem (by rw[hanc.1];exact(List.getElem?_eq_some_iff.1 hq).1)⟩
     obtain⟨mi,hmi⟩:=hai i o ho
     obtain⟨mj,hmj⟩:=hai j o' hj
     rcases hc with⟨hc,hlt⟩|⟨hc,hlt⟩
     ·have hb:=Bv hA (vc hj hrj hmj) (vc ho hr hmi) hlt hc
      rw[Nat.zero_add]at hb
      have:=hanc.2 i mi o hmi ho (h3 o ho) j hb
      simp only[hlt,decide_true];exact this
     ·have hb:=Bv hA (vc ho hr hmi) (vc hj hrj hmj) hlt hc
      rw[Nat.zero_add]at hb
      have:decide (j<i)=false:=by simp;omega
      rw[this]
      cases hS:listed.getD j false with
      |false=>rfl
      |true=>
       have:=hanc.2 j mj o' hmj hj (hd j o' hj hS) i hb
       simp only[hi2]at this
       simp at this
    obtain⟨sl,st,v1,v2,v3⟩:=hinv
    -- the operation C4 here what it did in the order of the text
    have hloc:nc T Γ orc ops.toList ⟨sl,st,s.next⟩ i o=some r:=by
     refine ad2 q1 (fun t ht=>?_) (fun k hk=>?_) q2
     ·rw[q3 t,v1 t]
      congr 1
      rw[<-CL (show i<=ops.size by omega)]
      refine nK fun j hj hW=>?_
      by_cases hji:j=i
      ·subst hji;simp only[hi2];simp
      ·unfold jH at hW
       cases hoj:ops.toList[j]? with
       |none=>simp[hoj]at hW
       |some o'=>
        cases hrj:rs[j]? with
        |none=>simp[hoj,hrj]at hW
        |some r'=>
         have hdj:o'.dst=some t:=by
          simp only[hoj,hrj]at hW
          by_cases hd:o'.dst=some t
          ·exact hd
          ·simp[hd]at hW
         refine(hclash j o' r' hoj hrj hji ?_).symm
         rcases Nat.lt_or_gt_of_ne hji with hlt|hgt
         ·refine .inl ⟨?_,hlt⟩
          simp only[Touch.mE,lQ,Bool.or_eq_true]
          exact .inl (.inl (.inl (.inl (.inl (s7 (x:=t) (by simp[hdj]) ht)))))
         ·refine .inr ⟨?_,hgt⟩
          simp only[Touch.mE,lQ,Bool.or_eq_true]
          exact .inl (.inl (.inl (.inr (s7 (x:=t) ht (by simp[hdj])))))
     ·rw[q4 k,v2 k]
      congr 1
      rw[<-CL (show i<=ops.size by omega)]
      refine nK fun j hj hW=>?_
      by_cases hji:j=i
      ·subst hji;simp only[hi2];simp
      ·unfold jB at hW
       cases hoj:ops.toList[j]? with
       |none=>simp[hoj]at hW
       |some o'=>
        cases hrj:rs[j]? with
        |none=>simp[hoj,hrj]at hW
        |some r'=>
         have hkj:k∈r'.res.ct.map (·.1):=by
          simp only[hoj,hrj]at hW
          cases he:dm r'.res.ct k with
          |none=>simp[he]at hW
          |some x=>exact zT he
         refine(hclash j o' r' hoj hrj hji ?_).symm
         rcases Nat.lt_or_gt_of_ne hji with hlt|hgt
         ·refine .inl ⟨?_,hlt⟩
          simp only[Touch.mE,lQ,Bool.or_eq_true]
          exact .inl (.inl (.inr (s7 (x:=k) hkj hk)))
         ·refine .inr ⟨?_,hgt⟩
          simp only[Touch.mE,lQ,Bool.or_eq_true]
          exact .inr (s7 (x:=k) hk hkj)
    have hmem:r∈rs:=List.mem_of_getElem? hr
    refine LI (by simpa using ho) (E9 (D':=Il s.next ops.size (fun j=>listed.getD j false||j==i)) hT hΓ v3 hloc (t2 hneed r hmem) (hdst o (List.mem_of_getElem? ho)) (fun k hk=>?_) (fun k k1 k2=>?_) fun a' w' hrel'=>?_)
    ·rcases hk with hk|⟨j,g1,g2,g3,g4⟩
     ·exact .inl hk
     ·exact .inr ⟨j,g1,by simp only[g2,Bool.true_or],g3,g4⟩
    ·refine⟨?_,.inr ⟨i,h1,by simp,k1,k2⟩⟩
     rintro(hk|⟨j,g1,g2,g3,g4⟩)
     ·omega
     ·have:=XM g3 g4 k1 k2
      subst this
      simp only[hi2]at g2
      simp at g2
    ·have hS:(fun j=>(listed.setIfInBounds i true).getD j false)=fun j=>listed.getD j false||j==i:=by
      funext j
      exact SY aa
     refine ih (listed.setIfInBounds i true) a' w' (by simpa using hl) ?_ ?_ ?_
     ·rw[hS]
      intro j o' hoj hSj e he hb
      by_cases hji:j=i
      ·subst hji
       rw[ho]at hoj
       simp only[ax]at hoj
       subst hoj
       simp only[h3 o ho e he hb,Bool.true_or]
      ·have:(j==i)=false:=by simpa using hji
       simp only[this,Bool.or_false]at hSj
       have:=hd j o' hoj hSj e he hb
       simp only at this
       simp only[this,Bool.true_or]
     ·rw[hS]
      have:=Ft (S:=fun j=>listed.getD j false) (i:=i) hi2 h1
      omega
     ·rw[hS]
      refine⟨_,_,fun t=>?_,fun k=>?_,hrel'⟩
      ·rw[wF,v1 t]
       cases hWi:jH ops.toList rs t i with
       |none=>
        have hnd:¬o.dst=some t:=by
         simp only[jH,ho,hr]at hWi
         intro hd
         simp[hd]at hWi
        rw[if_neg hnd]
        congr 1
        refine nK fun j hj hW=>?_
        have:(j==i)=false:=by
         simp only[beq_eq_false_iff_ne,ne_eq]
         rintro rfl
         exact hW hWi
        simp only[this,Bool.or_false]
       |some v=>
        have hd':o.dst=some t/\r.res.val=v:=by
         simp only[jH,ho,hr]at hWi
         by_cases hd:o.dst=some t
         ·simp only[hd,if_true,ax]at hWi;exact⟨hd,hWi⟩
         ·simp[hd]at hWi
        rw[if_pos hd'.1,DY hi2 h1 fun j hij hjn hSj=>?_,hWi,hd'.2]
        ·rfl
        ·cases hWj:jH ops.toList rs t j with
         |none=>rfl
         |some v'=>
          exfalso
          unfold jH at hWj
          cases hoj:ops.toList[j]? with
          |none=>simp[hoj]at hWj
          |some o'=>
           cases hrj:rs[j]? with
           |none=>simp[hoj,hrj]at hWj
           |some r'=>
            have hdj:o'.dst=some t:=by
             simp only[hoj,hrj]at hWj
             by_cases hd:o'.dst=some t
             ·exact hd
             ·simp[hd]at hWj
            have:=hclash j o' r' hoj hrj aa (.inr ⟨by
             simp only[Touch.mE,lQ,Bool.or_eq_true]
             exact .inl (.inl (.inl (.inl (.inr (s7 (x:=t) (by simp[hd'.1]) (by simp[hdj])))))),hij⟩)
            have h5:decide (j<i)=false:=by simp;omega
            rw[h5]at this
            simp only[this]at hSj
            simp at hSj
      ·rw[kY,v2 k]
       cases hWi:jB ops.toList rs k i with
       |none=>
        have hnd:dm r.res.ct k=none:=by simpa only[jB,ho,hr]using hWi
        rw[hnd]
        simp only
        congr 1
        refine nK fun j hj hW=>?_
        have:(j==i)=false:=by
         simp only[beq_eq_false_iff_ne,ne_eq]
         rintro rfl
         exact hW hWi
        simp only[this,Bool.or_false]
       |some v=>
        have hd':dm r.res.ct k=some v:=by simpa only[jB,ho,hr]using hWi
        rw[hd',DY hi2 h1 fun j hij hjn hSj=>?_,hWi]
        ·rfl
        ·cases hWj:jB ops.toList rs k j with
         |none=>rfl
         |some v'=>
          exfalso
          unfold jB at hWj
          cases hoj:ops.toList[j]? with
          |none=>simp[hoj]at hWj
          |some o'=>
           cases hrj:rs[j]? with
           |none=>simp[hoj,hrj]at hWj
           |some r'=>
            simp only[hoj,hrj]at hWj
            have:=hclash j o' r' hoj hrj aa (.inr ⟨by
             simp only[Touch.mE,lQ,Bool.or_eq_true]
             exact .inl (.inr (s7 (x:=k) (zT hd') (zT hWj))),hij⟩)
            have h5:decide (j<i)=false:=by simp;omega
            rw[h5]at this
            simp only[this]at hSj
            simp at hSj
 have h0:(fun i=>(Array.replicate ops.size false).getD i false)=fun _=>false:=by
  funext i
  simp only[Array.getD_eq_getD_getElem?,Array.getElem?_replicate]
  split<;>rfl
 refine main ops.size _ a w (by simp) ?_ ?_ ?_
 ·rw[h0];intro i o _ h;simp at h
 ·rw[h0,RB];exact Nat.le_refl _
 ·rw[h0]
  have hnone:∀{α:Type} (W:Nat->Option α) (n:Nat),eH W (fun _=>false) n=none:=fun W n=>by
   induction n with
   |zero=>rfl
   |succ n ih=>simp[eH,ih]
  refine⟨s.cS,s.store,fun t=>by rw[hnone];rfl,fun k=>by rw[hnone];rfl,hrel.ext (fun _=>rfl) (fun _=>rfl) fun k hk=>.inl hk⟩
include hT hΓ in
theorem ad5 {id:Nat} {ops:Array Oper} {draws:Bool} {nt:Nat} (hm:P.follows .mixedOrders=true) (hdst:(ops.toList.all fun o=>match o.dst with|some d=>decide (d<nt)|none=>true)=true)
  {Q:Exit->Act->World->Prop} {s s':aK} {need:List Prop} (hrun:qH T Γ orc ops draws s=some (s',need)) (hneed:au need) {a:Act} {w:World} (hrel:Rel c nt (fun k=>k<s.next) s.cS s.store a w)
  (hQ:∀a' w',Rel c nt (fun k=>k<s'.next) s'.cS s'.store a' w'->Q .normal a' w'):(Code.region id ops draws).wpIn (gL c.ro) 3 P Q a w:=by
 have hdst':∀o∈ops.toList,∀d,o.dst=some d->d<nt:=fun o ho d hd=>by
  have:=(List.all_eq_true.1 hdst) o ho
  simpa [hd]using this
 unfold qH at hrun
 simp only[force_eq]at hrun
 cases hr:kT T Γ orc ops.toList ops.toList 0 s with
 |none=>rw[hr]at hrun;simp at hrun
 |some q=>
  obtain⟨s1,n1,rs⟩:=q
  rw[hr]at hrun
  simp only at hrun
  split at hrun
  ·rename_i hc
   simp only[ax,Prod.mk.injEq]at hrun
   obtain⟨rfl,rfl⟩:=hrun
   have hnx:s1.next=s.next:=(Ey ops.toList 0 s s1 n1 rs hr).2.2.1
   cases draws with
   |false=>
    refine wpIn_region ?_
    have:=Lp hT hΓ hdst' (Q:=Q) ops.toList [] s s1 n1 rs a w rfl rfl hr hneed (by simpa using hrel) (fun a' w' h=>hQ a' w' (by simpa [hnx]using h))
    simpa [List.range_eq_range']using this
   |true=>
    simp only[Bool.not_true,Bool.false_or,Bool.and_eq_true]at hc
    refine wpIn_region_any hm (QC hT hΓ hdst' hr hneed hc.1 hc.2 (fun a' w' h=>hQ a' w' (by simpa [hnx]using h)) ?_)
    obtain⟨a1,a2,β,a3,a4⟩:=hrel
    exact⟨a1,a2,β,a3.drew,fun t v ht=>by
     obtain⟨x,hx,hv⟩:=a4 t v ht
     exact⟨x,hx,hv.iE cX.drew⟩⟩
  ·simp at hrun
end region
end Go.Am
namespace Go.Am
open AV
def aq.pJ:aq->Exit
 |.normal=>.normal
 |.exit i=>.exit i
 |.ret=>.ret
def cD (nt:Nat):Code->Bool
 |.region _ ops _=>ops.toList.all fun o=>match o.dst with
  |some d=>decide (d<nt)
  |none=>true
 |.seq x y=>cD nt x&&cD nt y
 |.cond _ x y=>cD nt x&&cD nt y
 |.block _ x=>cD nt x
 |.loop x=>cD nt x
 |.scope x=>cD nt x
 |.rangeFunc _ _ x y=>cD nt x&&cD nt y
 |_=>true
def ay (P:Program) (c:Ctx) (nt:Nat) (x:Code) (s:aK) (Q:aq->aK->Prop):Prop:=
 ∀a w,Rel c nt (fun k=>k<s.next) s.cS s.store a w->x.wpIn (gL c.ro) 3 P (fun e a' w'=>∃ae s',e=ae.pJ/\Rel c nt (fun k=>k<s'.next) s'.cS s'.store a' w'/\Q ae s') a w
section rules
variable {P:Program} {c:Ctx} {nt:Nat} {x y:Code} {s:aK} {Q Q':aq->aK->Prop}
theorem ay.mono (h:ay P c nt x s Q) (hq:∀e s',Q e s'->Q' e s'):ay P c nt x s Q':=
 fun a w hr=>wpIn_mono (h a w hr) fun _ _ _ ⟨ae,s',h1,h2,h3⟩=>⟨ae,s',h1,h2,hq _ _ h3⟩
theorem ay.skip (h:Q .normal s):ay P c nt .skip s Q:=fun _ _ hr=>wpIn_skip ⟨.normal,s,rfl,hr,h⟩
theorem ay.label {l:Nat} (h:Q .normal s):ay P c nt (.label l) s Q:=fun _ _ hr=>wpIn_label ⟨.normal,s,rfl,hr,h⟩
theorem ay.exit {i:Nat} (h:Q (.exit i) s):ay P c nt (.exit i) s Q:=fun _ _ hr=>wpIn_exit ⟨.exit i,s,rfl,hr,h⟩
theorem ay.ret (h:Q .ret s):ay P c nt .ret s Q:=fun _ _ hr=>wpIn_ret ⟨.ret,s,rfl,hr,h⟩
theorem ay.seq (h:ay P c nt x s fun e s'=>match e with
  |.normal=>ay P c nt y s' Q
  |e=>Q e s'):ay P c nt (.seq x y) s Q:=by
 intro a w hr
 refine wpIn_seq (wpIn_mono (h a w hr) ?_)
 rintro e a' w' ⟨ae,s',rfl,h2,h3⟩
 cases ae with
 |normal=>exact h3 a' w' h2
 |exit i=>exact⟨.exit i,s',rfl,h2,h3⟩
 |ret=>exact⟨.ret,s',rfl,h2,h3⟩
theorem ay.cond {b:Operand} {t:Bool} (hb:s.gQ b=some (.bool t)) (h1:t=true->ay P c nt x s Q) (h2:t=false->ay P c nt y s Q):ay P c nt (.cond b x y) s Q:=by
 intro a w hr
 obtain⟨_,_,β,_,hs⟩:=id hr
 have:=(DJ hs b _ hb).bool
 cases t
 ·exact wpIn_cond_false this (h2 rfl a w hr)
 ·exact wpIn_cond_true this (h1 rfl a w hr)
theorem ay.block {i:Nat} (h:ay P c nt x s fun e s'=>match e with
  |.exit j=>if j=i then Q .normal s' else Q (.exit j) s'
  |e=>Q e s'):ay P c nt (.block i x) s Q:=by
 intro a w hr
 refine wpIn_block (wpIn_mono (h a w hr) ?_)
 rintro e a' w' ⟨ae,s',rfl,h2,h3⟩
 cases ae with
 |normal=>exact⟨.normal,s',rfl,h2,h3⟩
 |exit j=>
  simp only[aq.pJ,Exit.inBlock]
  simp only at h3
  split
  ·rename_i hj;rw[if_pos hj]at h3;exact⟨.normal,s',rfl,h2,h3⟩
  ·rename_i hj;rw[if_neg hj]at h3;exact⟨.exit j,s',rfl,h2,h3⟩
 |ret=>exact⟨.ret,s',rfl,h2,h3⟩
theorem Bm {F:Fence} {m:Nat} {α:Type} {c:Code} {R:Exit->Act->World->Prop} (I:α->Act->World->Prop) (μ:α->Nat)
  (round:∀s a w,I s a w->c.wpIn F m P (Exit.then (fun a' w'=>∃s',I s' a' w'/\μ s'<μ s) R) a w) {s:α} {a:Act} {w:World} (h0:I s a w):(Code.loop c).wpIn F m P R a w:=by
 intro b k cs hro hb hr
 have key:∀n s a w,μ s=n->I s a w->
   ∃e a' w',R e a' w'/\ArrivesIn (Machine.fenced P F) P (lone (b.atR a (.code c::.inLoop c::k)) cs w) b k cs e a' w':=by
  intro n
  induction n using Nat.strongRecOn with
  |_ n ih=>
   intro s a w hn hI
   obtain⟨e,a₁,w₁,hq,harr⟩:=round s a w hI b (.inLoop c::k) cs hro hb hr
   cases e with
   |normal=>
    obtain⟨s',hI₁,hlt⟩:=hq
    obtain⟨e₂,a₂,w₂,hq₂,harr₂⟩:=ih (μ s') (hn▸hlt) s' a₁ w₁ rfl hI₁
    exact⟨e₂,a₂,w₂,hq₂,.of_steps (StepsIn.trans harr (.one (fenced_calm hb hr rfl) stepR_inLoop)) harr₂⟩
   |exit id=>exact⟨_,a₁,w₁,hq,.pass (x:=.inLoop c) rfl (fun _ _=>.inl (by simp)) harr⟩
   |goto l=>exact⟨_,a₁,w₁,hq,.pass (x:=.inLoop c) rfl (fun _ _=>.inl (by simp)) harr⟩
   |ret=>exact⟨_,a₁,w₁,hq,.pass (x:=.inLoop c) rfl (fun _ _=>.inl (by simp)) harr⟩
   |panic ch=>exact⟨_,a₁,w₁,hq,.pass (x:=.inLoop c) rfl (fun _ _=>.inl (by simp)) harr⟩
   |outgrown=>exact⟨_,a₁,w₁,hq,.pass (x:=.inLoop c) rfl (fun _ _=>.inl (by simp)) harr⟩
 obtain⟨e,a',w',hq,harr⟩:=key _ s a w rfl h0
 exact⟨e,a',w',hq,.of_steps (.one (fenced_calm hb hr rfl) stepR_loop) harr⟩
theorem ay.loop {α:Type} (S:α->aK) (I:α->Prop) (μ:α->Nat) (i:α) (hs:s=S i) (h0:I i)
  (round:∀i,I i->ay P c nt x (S i) fun e s'=>match e with
   |.normal=>∃j,s'=S j/\I j/\μ j<μ i
   |e=>Q e s'):ay P c nt (.loop x) s Q:=by
 intro a w hr
 refine Bm (fun i a w=>I i/\Rel c nt (fun k=>k<(S i).next) (S i).cS (S i).store a w) μ (s:=i) ?_ ⟨h0,by rw[<-hs];exact hr⟩
 rintro i a w ⟨hi,hr⟩
 refine wpIn_mono (round i hi a w hr) ?_
 rintro e a' w' ⟨ae,s',rfl,h2,h3⟩
 cases ae with
 |normal=>
  obtain⟨j,rfl,hj,hlt⟩:=h3
  exact⟨j,⟨hj,h2⟩,hlt⟩
 |exit i=>exact⟨.exit i,s',rfl,h2,h3⟩
 |ret=>exact⟨.ret,s',rfl,h2,h3⟩
variable {T:Types} (hT:dJ P T) {Γ:aV} (hΓ:bg P Γ) (hm:P.follows .mixedOrders=true)
include hT hΓ hm in
theorem ay.region {orc:List (Nat×Bool)} {id:Nat} {ops:Array Oper} {d:Bool} (hd:cD nt (.region id ops d)=true) {s':aK} {need:List Prop} (hr:qH T Γ orc ops d s=some (s',need)) (hn:au need) (h:Q .normal s'):
  ay P c nt (.region id ops d) s Q:=
 fun _ _ hrel=>ad5 hT hΓ hm hd hr hn hrel fun _ _ h'=>⟨.normal,s',rfl,h',h⟩
include hT hΓ hm in
theorem ay.run:∀(n:Nat) {x:Code} {s:aK},cD nt x=true->∀{e:aq} {s':aK} {need:List Prop},fG T Γ n x s=some (e,s',need)->au need->
  ay P c nt x s fun e' t=>e'=e/\t=s'
 |0,x,s,_,e,s',need,h,_=>by simp[fG]at h
 |n+1,.skip,s,_,e,s',need,h,hn=>by
  simp only[fG,ax,Prod.mk.injEq]at h
  obtain⟨rfl,rfl,rfl⟩:=h
  exact .skip ⟨rfl,rfl⟩
 |n+1,.label l,s,_,e,s',need,h,hn=>by
  simp only[fG,ax,Prod.mk.injEq]at h
  obtain⟨rfl,rfl,rfl⟩:=h
  exact .label ⟨rfl,rfl⟩
 |n+1,.exit i,s,_,e,s',need,h,hn=>by
  simp only[fG,ax,Prod.mk.injEq]at h
  obtain⟨rfl,rfl,rfl⟩:=h
  exact .exit ⟨rfl,rfl⟩
 |n+1,.ret,s,_,e,s',need,h,hn=>by
  simp only[fG,ax,Prod.mk.injEq]at h
  obtain⟨rfl,rfl,rfl⟩:=h
  exact .ret ⟨rfl,rfl⟩
 |n+1,.region i ops d,s,hd,e,s',need,h,hn=>by
  simp only[fG]at h
  cases hr:qH T Γ [] ops d s with
  |none=>rw[hr]at h;simp at h
  |some q=>
   obtain⟨s1,p⟩:=q
   rw[hr]at h
   simp only[ax,Prod.mk.injEq]at h
   obtain⟨rfl,rfl,rfl⟩:=h
   exact ay.region hT hΓ hm hd hr hn ⟨rfl,rfl⟩
 |n+1,.seq x y,s,hd,e,s',need,h,hn=>by
  simp only[cD,Bool.and_eq_true]at hd
  simp only[fG]at h
  cases hx:fG T Γ n x s with
  |none=>rw[hx]at h;simp at h
  |some q=>
   obtain⟨e1,s1,p⟩:=q
   rw[hx]at h
   cases e1 with
   |normal=>
    simp only at h
    cases hy:fG T Γ n y s1 with
    |none=>rw[hy]at h;simp at h
    |some q2=>
     obtain⟨e2,s2,p2⟩:=q2
     rw[hy]at h
     simp only[ax,Prod.mk.injEq]at h
     obtain⟨rfl,rfl,rfl⟩:=h
     refine .seq ((ay.run n hd.1 hx (dN.1 hn).1).mono ?_)
     rintro e' t ⟨rfl,rfl⟩
     exact ay.run n hd.2 hy (dN.1 hn).2
   |exit i=>
    simp only[ax,Prod.mk.injEq]at h
    obtain⟨rfl,rfl,rfl⟩:=h
    refine .seq ((ay.run n hd.1 hx hn).mono ?_)
    rintro e' t ⟨rfl,rfl⟩
    exact⟨rfl,rfl⟩
   |ret=>
    simp only[ax,Prod.mk.injEq]at h
    obtain⟨rfl,rfl,rfl⟩:=h
    refine .seq ((ay.run n hd.1 hx hn).mono ?_)
    rintro e' t ⟨rfl,rfl⟩
    exact⟨rfl,rfl⟩
 |n+1,.cond b x y,s,hd,e,s',need,h,hn=>by
  simp only[cD,Bool.and_eq_true]at hd
  simp only[fG]at h
  cases hb:s.gQ b with
  |none=>rw[hb]at h;simp at h
  |some v=>
   rw[hb]at h
   cases v<;>simp only[reduceCtorEq]at h
   case bool t=>
    cases t with
    |true=>exact .cond hb (fun _=>ay.run n hd.1 h hn) (fun h=>by simp at h)
    |false=>exact .cond hb (fun h=>by simp at h) (fun _=>ay.run n hd.2 h hn)
 |n+1,.block i x,s,hd,e,s',need,h,hn=>by
  simp only[cD]at hd
  simp only[fG]at h
  cases hx:fG T Γ n x s with
  |none=>rw[hx]at h;simp at h
  |some q=>
   obtain⟨e1,s1,p⟩:=q
   rw[hx]at h
   cases e1 with
   |normal=>
    simp only[ax,Prod.mk.injEq]at h
    obtain⟨rfl,rfl,rfl⟩:=h
    refine .block ((ay.run n hd hx hn).mono ?_)
    rintro e' t ⟨rfl,rfl⟩
    exact⟨rfl,rfl⟩
   |exit j=>
    simp only at h
    split at h
    ·rename_i hj
     have hj':j=i:=by simpa using hj
     simp only[ax,Prod.mk.injEq]at h
     obtain⟨rfl,rfl,rfl⟩:=h
     refine .block ((ay.run n hd hx hn).mono ?_)
     rintro e' t ⟨rfl,rfl⟩
     simp[hj']
    ·rename_i hj
     have hj':¬j=i:=by simpa using hj
     simp only[ax,Prod.mk.injEq]at h
     obtain⟨rfl,rfl,rfl⟩:=h
     refine .block ((ay.run n hd hx hn).mono ?_)
     rintro e' t ⟨rfl,rfl⟩
     simp[hj']
   |ret=>
    simp only[ax,Prod.mk.injEq]at h
    obtain⟨rfl,rfl,rfl⟩:=h
    refine .block ((ay.run n hd hx hn).mono ?_)
    rintro e' t ⟨rfl,rfl⟩
    exact⟨rfl,rfl⟩
 |n+1,.loop x,s,hd,e,s',need,h,hn=>by
  have key:∀(m:Nat) (s:aK) (e:aq) (s':aK) (need:List Prop),m<=n+1->fG T Γ m (.loop x) s=some (e,s',need)->au need->
    ∀(a:Act) (w:World) (fr:Frame) (k:List Item) (cs:List Frame),fr.roundOf=(gL c.ro).round->(gL c.ro).fn fr.fn->(gL c.ro).room (cs.length+1+3)->Rel c nt (fun k=>k<s.next) s.cS s.store a w->
     ∃e' a' w',(∃ae t,e'=aq.pJ ae/\Rel c nt (fun k=>k<t.next) t.cS t.store a' w'/\ae=e/\t=s')/\ArrivesIn (Machine.fenced P (gL c.ro)) P (lone (fr.atR a (.code x::.inLoop x::k)) cs w) fr k cs e' a' w':=by
   intro m
   induction m with
   |zero=>intro s e s' need _ h;simp[fG]at h
   |succ m ihm=>
    intro s e s' need hmn h hn a w fr k cs h01 h02 h03 hrel
    simp only[fG]at h
    cases hx:fG T Γ m x s with
    |none=>rw[hx]at h;simp at h
    |some q=>
     obtain⟨e1,s1,p⟩:=q
     rw[hx]at h
     have hlen:m<=n:=aa
     have hrunx:au p->ay P c nt x s fun e' t=>e'=e1/\t=s1:=fun hp=>ay.run m (by simpa [cD]using hd) hx hp
     cases e1 with
     |normal=>
      simp only at h
      cases hy:fG T Γ m (.loop x) s1 with
      |none=>rw[hy]at h;simp at h
      |some q2=>
       obtain⟨e2,s2,p2⟩:=q2
       rw[hy]at h
       simp only[ax,Prod.mk.injEq]at h
       obtain⟨rfl,rfl,rfl⟩:=h
       obtain⟨e',a1,w1,⟨ae,t,rfl,g1,rfl,rfl⟩,harr⟩:=hrunx (dN.1 hn).1 a w hrel fr (.inLoop x::k) cs h01 h02 h03
       obtain⟨e'',a2,w2,g2,harr2⟩:=ihm t e2 s2 p2 aa hy (dN.1 hn).2 a1 w1 fr k cs h01 h02 h03 g1
       exact⟨e'',a2,w2,g2,.of_steps (StepsIn.trans harr (.one (fenced_calm h02 h03 rfl) stepR_inLoop)) harr2⟩
     |exit i=>
      simp only[ax,Prod.mk.injEq]at h
      obtain⟨rfl,rfl,rfl⟩:=h
      obtain⟨e',a1,w1,⟨ae,t,rfl,g1,rfl,rfl⟩,harr⟩:=hrunx hn a w hrel fr (.inLoop x::k) cs h01 h02 h03
      exact⟨_,a1,w1,⟨_,t,rfl,g1,rfl,rfl⟩,.pass (x:=.inLoop x) rfl (fun _ _=>.inl (by simp[aq.pJ])) harr⟩
     |ret=>
      simp only[ax,Prod.mk.injEq]at h
      obtain⟨rfl,rfl,rfl⟩:=h
      obtain⟨e',a1,w1,⟨ae,t,rfl,g1,rfl,rfl⟩,harr⟩:=hrunx hn a w hrel fr (.inLoop x::k) cs h01 h02 h03
      exact⟨_,a1,w1,⟨_,t,rfl,g1,rfl,rfl⟩,.pass (x:=.inLoop x) rfl (fun _ _=>.inl (by simp[aq.pJ])) harr⟩
  intro a w hrel fr k cs h01 h02 h03
  obtain⟨e',a',w',g1,harr⟩:=key (n+1) s e s' need aR h hn a w fr k cs h01 h02 h03 hrel
  exact⟨e',a',w',g1,.of_steps (.one (fenced_calm h02 h03 rfl) stepR_loop) harr⟩
 |n+1,.scope x,s,_,e,s',need,h,_=>by simp[fG]at h
 |n+1,.goto l,s,_,e,s',need,h,_=>by simp[fG]at h
 |n+1,.refuse l,s,_,e,s',need,h,_=>by simp[fG]at h
 |n+1,.rangeFunc _ _ _ _,s,_,e,s',need,h,_=>by simp[fG]at h
include hT hΓ hm in
theorem ay.step (n:Nat) (hd:cD nt x=true) {e:aq} {s':aK} {need:List Prop} (hc:fG T Γ n x s=some (e,s',need)) (hn:au need) (h:Q e s'):ay P c nt x s Q:=
 (ay.run hT hΓ hm n hd hc hn).mono fun _ _ ⟨h1,h2⟩=>by subst h1;subst h2;exact h
end rules
end Go.Am
namespace Go.Am
open AV
def gV (ρ:Nat->Option Nat) (u v:AV):Prop:=v.isAgg=u.isAgg/\∀M w β cs,aQ M w β [u] cs->aQ M w (fun k=>(ρ k).bind β) [v] cs
structure eA (ρ:Nat->Option Nat) (o1 o2:az):Prop where
 row:o2.row=o1.row
 wr:o2.wr=o1.wr
 es:o2.es=o1.es
 len:o2.len=o1.len
 f:∀i,i<o1.len->gV ρ (o1.f i) (o2.f i)
def tW (o:az):Prop:=o.row=true/\o.len=0/\0<o.es
theorem Pf {ρ:Nat->Option Nat}:(fun k=>(ρ k).bind bt)=bt:=by
 funext k
 cases ρ k<;>rfl
section weak
variable {c c':Ctx} {st st2:aD} {D D2:Nat->Prop} {β β2:aZ} {w:World} {ρ:Nat->Option Nat}
theorem yz (hMf:c'.Mf=c.Mf) (hst:∀k2 o2,look k2 st2=some o2->(∃k1 o1,ρ k2=some k1/\look k1 st=some o1/\eA ρ o1 o2)\/β2 k2=none) (hβ:∀k2 k1,ρ k2=some k1->β2 k2=β k1):
  ∀b,aO c' st2 β2 b->aO c st β b:=by
 rintro b (hb|⟨k2,o2,N,h1,h2,h3⟩)
 ·exact .inl (hMf▸hb)
 ·rcases hst k2 o2 h1 with⟨k1,o1,g1,g2,g3⟩|g
  ·exact .inr ⟨k1,o1,N,g2,by rw[<-g3.wr];exact h2,by rw[<-hβ k2 k1 g1];exact h3⟩
  ·rw[g]at h3;simp at h3
theorem aQ.weak {u v:AV} {cs:List Value} {M M':Nat->Prop} (hM:∀b,M' b->M b) (hβ:∀k2 k1,ρ k2=some k1->β2 k2=β k1) (hle:gV ρ u v) (h:aQ M w β [u] cs):aQ M' w β2 [v] cs:=by
 refine(hle.2 M w β cs h).mono (fun b o h1 h2=>⟨h2,fun h3=>h1 (hM b h3)⟩) β2 fun k x hk=>?_
 cases hr:ρ k with
 |none=>rw[hr]at hk;simp at hk
 |some k1=>
  rw[hr]at hk
  rw[hβ k k1 hr];exact hk
theorem bw.weak {u v:AV} {x:Value} {M M':Nat->Prop} (hM:∀b,M' b->M b) (hβ:∀k2 k1,ρ k2=some k1->β2 k2=β k1) (hle:gV ρ u v) (h:bw M w β u x):bw M' w β2 v x:=by
 obtain⟨cs,h1,h2⟩:=h
 exact⟨cs,h1.weak hM hβ hle,by rw[hle.1];exact h2⟩
theorem bu.weak (h:bu c st D β w) (hMf:c'.Mf=c.Mf) (hw0:c'.w0=c.w0) (hMw:c'.Mw=c.Mw) (hinj:∀a b k,ρ a=some k->ρ b=some k->a=b)
  (hst:∀k2 o2,look k2 st2=some o2->(∃k1 o1,ρ k2=some k1/\look k1 st=some o1/\eA ρ o1 o2)\/(β2 k2=none/\tW o2/\D2 k2)) (hβ:∀k2 k1,ρ k2=some k1->β2 k2=β k1) (hd2:∀k2 k1,ρ k2=some k1->D2 k2)
  (hdom:∀k2 x,β2 k2=some x->D2 k2) (hlt:∀k2 b (N:Nat×Nat),β2 k2=some (b,N)->b<w.heap.size) (hkeep:∀k x,c'.k0 k=some x->β2 k=some x):bu c' st2 D2 β2 w:=by
 have hM:=yz hMf (fun k2 o2 h=>(hst k2 o2 h).imp id (·.1)) hβ
 have hst':∀k2 o2 x,look k2 st2=some o2->β2 k2=some x->∃k1 o1,ρ k2=some k1/\look k1 st=some o1/\eA ρ o1 o2:=fun k2 o2 x h hb=>(hst k2 o2 h).resolve_right fun g=>by rw[g.1]at hb;simp at hb
 refine {obj:=fun k2 o2 hk x hx=>?_,dM:=fun k2 o2 hk hb=>?_,inj:=fun k k' o o' b N N' h1 h2 hw hb hb'=>?_,dom:=hdom,keep:=hkeep,lt:=hlt,os:=(by rw[hw0];exact h.os),tape:=(by rw[hw0];exact h.tape),output:=(by rw[hw0];exact h.output),size:=(by rw[hw0];exact h.size),block:=fun b=>by rw[hw0,hMw];exact h.block b,gB:=fun b=>by rw[hw0,hMf,hMw];exact h.gB b,new:=fun k o b N hk hw hb=>?_}
 ·obtain⟨k1,o1,g1,g2,g3⟩:=hst' k2 o2 x hk hx
  obtain⟨b,N,cs,ty,a1,a2,a3,a4,⟨a5,a5'⟩,a6,a7,a8⟩:=h.obj k1 o1 g2 x (by rw[<-hβ k2 k1 g1];exact hx)
  have e2:β2 k2=some (b,N):=by rw[hβ k2 k1 g1];exact a1
  refine⟨b,N,cs,ty,e2,a2,by rw[g3.es];exact a3,by rw[g3.es];exact a4,⟨by rw[g3.len];exact a5,by rw[g3.len];exact a5'⟩,
   fun hw=>.inr ⟨k2,o2,N,hk,hw,e2⟩,fun hw hm=>a7 (by rw[<-g3.wr];exact hw) (hM b hm),fun i hi=>?_⟩
  rw[g3.len]at hi
  obtain⟨ps,p1,p2,p3⟩:=a8 i hi
  refine⟨ps,by rw[g3.es];exact p1,?_,by rw[g3.es];exact p3⟩
  rw[g3.row]
  cases hr:o1.row with
  |true=>
   rw[hr]at p2
   simp only[if_true]at p2 ⊢
   have:=(g3.f i hi).2 _ _ _ _ p2
   rw[Pf]at this
   exact this.mono (fun b o h1 h2=>⟨h2,fun h3=>h1 (hM b h3)⟩) _ fun _ _ h=>h
  |false=>
   rw[hr]at p2
   simp only[Bool.false_eq_true,if_false]at p2 ⊢
   exact p2.weak hM hβ (g3.f i hi)
 ·rcases hst k2 o2 hk with⟨k1,o1,g1,g2,g3⟩|⟨g1,g2,g3⟩
  ·have:=(h.dM k1 o1 g2 (by rw[<-hβ k2 k1 g1];exact hb)).1
   exact⟨by rw[g3.row,g3.len,g3.es];exact this,hd2 k2 k1 g1⟩
  ·exact⟨g2,g3⟩
 ·obtain⟨k1,o1,g1,g2,g3⟩:=hst' k o _ h1 hb
  obtain⟨k1',o1',g1',g2',g3'⟩:=hst' k' o' _ h2 hb'
  rw[hβ k k1 g1]at hb
  rw[hβ k' k1' g1']at hb'
  have:=h.inj k1 k1' o1 o1' b N N' g2 g2' (by rw[<-g3.wr];exact hw) hb hb'
  subst this
  exact hinj k k' k1 g1 g1'
 ·obtain⟨k1,o1,g1,g2,g3⟩:=hst' k o _ hk hb
  rw[hw0,hMw]
  exact h.new k1 o1 b N g2 (by rw[<-g3.wr];exact hw) (by rw[<-hβ k k1 g1];exact hb)
structure Le (c:Ctx) (ρ:Nat->Option Nat) (s s2:aK):Prop where
 inj:∀a b k,ρ a=some k->ρ b=some k->a=b
 cS:∀t v,look t s2.cS=some v->∃u,look t s.cS=some u/\u.isTuple=false/\gV ρ u v
 store:∀k2 o2,look k2 s2.store=some o2->(∃k1 o1,ρ k2=some k1/\look k1 s.store=some o1/\eA ρ o1 o2)\/(ρ k2=none/\tW o2/\k2<s2.next)
 dom:∀k2 k1,ρ k2=some k1->k2<s2.next
 keep:∀k x,c.k0 k=some x->ρ k=some k
theorem Le.Bg {s s2:aK} {tmps:Array Value} (hle:Le c ρ s s2) (a3:bu c s.store (fun k=>k<s.next) β w) (a4:nM (aO c s.store β) w β s.cS tmps):
  bu c s2.store (fun k=>k<s2.next) (fun k=>(ρ k).bind β) w/\nM (aO c s2.store fun k=>(ρ k).bind β) w (fun k=>(ρ k).bind β) s2.cS tmps:=by
 have hβ:∀k2 k1,ρ k2=some k1->(fun k=>(ρ k).bind β) k2=β k1:=fun k2 k1 h=>by simp[h]
 have hst:∀k2 o2,look k2 s2.store=some o2->(∃k1 o1,ρ k2=some k1/\look k1 s.store=some o1/\eA ρ o1 o2)\/((ρ k2).bind β=none/\tW o2/\k2<s2.next):=fun k2 o2 h=>(hle.store k2 o2 h).imp id fun⟨g1,g2⟩=>⟨by rw[g1];rfl,g2⟩
 refine⟨a3.weak rfl rfl rfl hle.inj hst hβ hle.dom (fun k2 x hk=>?_) (fun k2 b N hk=>?_) (fun k x hk=>?_),fun t v ht=>?_⟩
 ·cases hr:ρ k2 with
  |none=>simp[hr]at hk
  |some k1=>exact hle.dom k2 k1 hr
 ·cases hr:ρ k2 with
  |none=>simp[hr]at hk
  |some k1=>simp[hr]at hk;exact a3.lt k1 b N hk
 ·simp only[hle.keep k x hk,Option.bind_some];exact a3.keep k x hk
 ·obtain⟨u,hu,htu,huv⟩:=hle.cS t v ht
  obtain⟨x,hx,hv⟩:=a4 t u hu
  exact⟨x,hx,((hv.one htu).weak (yz rfl (fun k2 o2 h=>(hst k2 o2 h).imp id (·.1)) hβ) hβ huv).bP⟩
theorem Le.rel {nt:Nat} {s s2:aK} (hle:Le c ρ s s2) {a:Act} (h:Rel c nt (fun k=>k<s.next) s.cS s.store a w):Rel c nt (fun k=>k<s2.next) s2.cS s2.store a w:=
 let ⟨a1,a2,_,a3,a4⟩:=h
 ⟨a1,a2,_,hle.Bg a3 a4⟩
theorem ay.weak {P:Program} {nt:Nat} {x:Code} {s s2:aK} {Q:aq->aK->Prop} (hle:Le c ρ s s2) (h:ay P c nt x s2 Q):ay P c nt x s Q:=
 fun a w hr=>h a w (hle.rel hr)
theorem ay.V9 {P:Program} {nt:Nat} {x:Code} {s:aK} {Q:aq->aK->Prop} {α:Type} (S:α->aK) (I:α->Prop) (μ:α->Nat) (i:α) (hs:∃ρ,Le c ρ s (S i)) (h0:I i)
  (round:∀i,I i->ay P c nt x (S i) fun e s'=>match e with
   |.normal=>∃j,(∃ρ,Le c ρ s' (S j))/\I j/\μ j<μ i
   |e=>Q e s'):ay P c nt (.loop x) s Q:=by
 intro a w hr
 obtain⟨ρ,hle⟩:=hs
 refine Bm (fun i a w=>I i/\Rel c nt (fun k=>k<(S i).next) (S i).cS (S i).store a w) μ (s:=i) ?_ ⟨h0,hle.rel hr⟩
 rintro i a w ⟨hi,hr⟩
 refine wpIn_mono (round i hi a w hr) ?_
 rintro e a' w' ⟨ae,s',rfl,h2,h3⟩
 cases ae with
 |normal=>
  obtain⟨j,⟨ρ,hle⟩,hj,hlt⟩:=h3
  exact⟨j,⟨hj,hle.rel h2⟩,hlt⟩
 |exit i=>exact⟨.exit i,s',rfl,h2,h3⟩
 |ret=>exact⟨.ret,s',rfl,h2,h3⟩
end weak
theorem cH.bt {M:Nat->Prop} {w:World} {β:aZ}:∀{l:List AV} {xs:List Value},cH M w β l xs->bI l=[]->cH M w Am.bt l xs
 |[],[],_,_=>trivial
 |a::l,x::xs,h,hk=>by
  simp only[bI,List.append_eq_nil_iff]at hk
  obtain⟨⟨cs,h1,h2⟩,h3⟩:=h
  exact⟨⟨cs,zU h1 (by simp[bI,hk.1]),h2⟩,cH.bt h3 hk.2⟩
 |[],_::_,h,_=>h.elim
 |_::_,[],h,_=>h.elim
theorem A2 {M:Nat->Prop} {w:World} {β:aZ}:∀{l:List AV} {xs:List Value} {i:Nat} {pre post:Array Value},cH M w β l xs->pre.size=i->nM M w β (aS i l) (pre++xs.toArray++post)
 |[],[],i,pre,post,_,_=>fun t v h=>by simp[aS,look]at h
 |a::l,x::xs,i,pre,post,h,hp=>by
  intro t v ht
  simp only[aS,look]at ht
  split at ht
  ·rename_i hit
   have hit':i=t:=by simpa using hit
   simp only[ax]at ht
   subst ht;subst hit'
   exact⟨x,by rw[Array.append_assoc,Array.getElem?_append_right aa,<-hp,Nat.sub_self,Array.getElem?_append_left (by simp)];simp,h.1.bP⟩
  ·have:=A2 (pre:=pre.push x) (post:=post) h.2 (i:=i+1) (by simp[hp]) t v ht
   have e:pre.push x++xs.toArray++post=pre++(x::xs).toArray++post:=by
    apply Array.ext';simp
   rwa [e]at this
 |[],_::_,_,_,_,h,_=>h.elim
 |_::_,[],_,_,_,h,_=>h.elim
def bp (u v:AV):Prop:=v.isAgg=u.isAgg/\∀M w cs,aQ M w bt [u] cs->aQ M w bt [v] cs
theorem bp.refl (u:AV):bp u u:=⟨rfl,fun _ _ _ h=>h⟩
def dA:List AV->List AV->Prop
 |[],[]=>True
 |u::us,v::vs=>bp u v/\dA us vs
 |_,_=>False
theorem dA.refl:∀l:List AV,dA l l
 |[]=>trivial
 |u::l=>⟨.refl u,dA.refl l⟩
def fA (us:List AV) (res:AV):Prop:=
 match us,res with
 |[u],v=>bp u v
 |us,.tuple vs=>dA us vs
 |_,_=>False
def Ends (T:Types) (fn:Func) (res:AV) (s:aK):Prop:=
 ∃vs q us,g8 T s fn.results.toList=some (vs,q)/\au q/\fh (jZ (pick s.store (bI vs))) vs=some us/\fA us res
section funcs
variable {P:Program} {T:Types} (hT:dJ P T) {c:Ctx} {w:World}
include hT in
theorem CI {D:Nat->Prop} {β:aZ} {s:aK} {a:Act} (hw:bu c s.store D β w) (hs:nM (aO c s.store β) w β s.cS a.tmps) {g:ResultVar->Sem Value}
  (hg1:∀t,g (.tmp t)=pure (a.tmps.getD t undef)) (hg2:∀r t,g (.cell r t)=(do let x <-asAddr (a.tmps.getD r undef);loadVar t x)):
  ∀{l:List ResultVar} {vs:List AV} {q:List Prop},g8 T s l=some (vs,q)->au q->∃xs,(l.mapM g).run P w=.ok xs w/\cH (aO c s.store β) w β vs xs/\xs.length=l.length
 |[],vs,q,h,hq=>by
  simp only[g8,ax,Prod.mk.injEq]at h
  obtain⟨rfl,rfl⟩:=h
  exact⟨[],by simp,trivial,rfl⟩
 |x::l,vs,q,h,hq=>by
  simp only[g8]at h
  cases hx:qw T s x with
  |none=>rw[hx]at h;simp at h
  |some p=>
   obtain⟨v,p1⟩:=p
   cases hl:g8 T s l with
   |none=>rw[hx,hl]at h;simp at h
   |some p2=>
    obtain⟨vs',q'⟩:=p2
    rw[hx,hl]at h
    simp only[ax,Prod.mk.injEq]at h
    obtain⟨rfl,rfl⟩:=h
    obtain⟨xs,hxs,hv,hlen⟩:=CI hw hs hg1 hg2 hl (dN.1 hq).2
    have hone:∃y,(g x).run P w=.ok y w/\bw (aO c s.store β) w β v y:=by
     cases x with
     |tmp t=>
      simp only[qw]at hx
      cases ht:look t s.cS with
      |none=>rw[ht]at hx;simp at hx
      |some u=>
       rw[ht]at hx
       simp only at hx
       split at hx
       ·simp at hx
       ·rename_i htu
        simp only[ax,Prod.mk.injEq]at hx
        obtain⟨rfl,_⟩:=hx
        obtain⟨y,hy,hvy⟩:=hs t u ht
        refine⟨y,?_,hvy.one (by simpa using htu)⟩
        rw[hg1]
        simp[Array.getD_eq_getD_getElem?,hy]
     |cell r t=>
      simp only[qw]at hx
      cases ht:look t T with
      |none=>rw[ht]at hx;simp at hx
      |some ti=>
       cases hr:look r s.cS with
       |none=>rw[ht,hr]at hx;simp at hx
       |some pv=>
        rw[ht,hr]at hx
        simp only at hx
        cases hld:lE s.store ti pv with
        |none=>rw[hld]at hx;simp at hx
        |some ld=>
         rw[hld]at hx
         simp only[ax,Prod.mk.injEq]at hx
         obtain⟨rfl,rfl⟩:=hx
         obtain⟨y,hy,hvy⟩:=hs r pv hr
         obtain⟨_,z,hz,hvz⟩:=KZ hT hw (fun _ _ h=>h) ht hvy hld (dN.1 hq).1
         refine⟨z,?_,hvz⟩
         rw[hg2]
         simp only[Array.getD_eq_getD_getElem?,hy,Option.getD_some]
         cases y with
         |pointer ad=>
          cases ad with
          |some ad=>simpa [Instr.loadAt,Instr.sureAddr,asAddr]using hz
          |none=>simp[Instr.loadAt,Instr.sureAddr]at hz
         |_=>simp[Instr.loadAt,Instr.sureAddr]at hz
    obtain⟨y,hy,hvy⟩:=hone
    exact⟨y::xs,by simp[List.mapM_cons,hy,hxs],⟨hvy,hv⟩,by simp[hlen]⟩
theorem sw {M:Nat->Prop}:∀{us vs:List AV} {xs:List Value},dA us vs->cH M w bt us xs->cH M w bt vs xs
 |[],[],[],_,_=>trivial
 |u::us,v::vs,x::xs,h,hv=>by
  obtain⟨⟨cs,h1,h2⟩,h3⟩:=hv
  exact⟨⟨cs,h.1.2 _ _ _ h1,by rw[h.1.1];exact h2⟩,sw h.2 h3⟩
 |[],_::_,_,h,_=>h.elim
 |_::_,[],_,h,_=>h.elim
 |_::_,_::_,[],_,h=>h.elim
 |[],[],_::_,_,h=>h.elim
theorem ya {st pre:aD} {D:Nat->Prop} {β:aZ} (h:bu c st D β w) (hpre:∀k o,look k pre=some o->look k st=some o):∀{l m:List AV} {xs:List Value},fh pre l=some m->cH (aO c st β) w β l xs->
  cH (aO c st β) w bt m xs
 |[],m,[],hf,_=>by simp only[fh,ax]at hf;subst hf;trivial
 |a::l,m,x::xs,hf,hv=>by
  simp only[fh]at hf
  cases ha:dj pre a with
  |none=>rw[ha]at hf;simp at hf
  |some b=>
   cases hl:fh pre l with
   |none=>rw[ha,hl]at hf;simp at hf
   |some m'=>
    rw[ha,hl]at hf
    simp only[ax]at hf
    subst hf
    obtain⟨⟨cs,h1,h2⟩,h3⟩:=hv
    obtain⟨g1,g2⟩:=zm h hpre ha h1
    exact⟨⟨cs,g1,by rw[g2];exact h2⟩,ya h hpre hl h3⟩
 |[],_,_::_,_,h=>h.elim
 |_::_,_,[],_,h=>h.elim
theorem Rel.leave {fn:Func} {R:Ending->World->Prop} {nt:Nat} {D:Nat->Prop} {sl:List (Nat×AV)} {st:aD} {a:Act} {w:World} (hr:Rel c nt D sl st a w):
  ∃w',Rel c nt D sl st {a with defers:=[]} w'/\∀v,(results fn a.tmps).run P w'=.ok v w'->R (.returned v) w'->LeavesInM Fence.wide 3 P fn a.tmps R a.defers .returning w:=by
 obtain⟨⟨_,Ds,a1,hnd,hD⟩,a2,β,a3,a4⟩:=hr
 rw[a1]
 clear a1
 induction Ds generalizing w with
 |nil=>exact⟨w,⟨.nil,a2,β,a3,a4⟩,fun v h1 h2=>⟨v,h1,h2⟩⟩
 |cons B Ds ih=>
  obtain⟨b2,b3⟩:=hD B (by simp)
  have hh:∀(b:Nat) x ty fr,w.heap[b]?=some (Obj.cells x ty fr)->(w.putObj B (.deferred none)).heap[b]?=some (Obj.cells x ty fr):=fun b x ty fr h=>by
   rw[World.putObj_heap_other (fun e=>by subst e;rw[b2]at h;cases h)];exact h
  obtain⟨w',h1,h2⟩:=ih (w:=w.putObj B (.deferred none)) (List.nodup_cons.1 hnd).2 (fun E hE=>⟨(World.putObj_heap_other (fun e=>(List.nodup_cons.1 hnd).1 (by rw[<-e];exact hE))).trans (hD E (by simp[hE])).1,(hD E (by simp[hE])).2⟩)
   (a3.wJ hh rfl rfl rfl (by simp) (fun b hb=>World.putObj_heap_other (fun e=>aa))) (fun t v ht=>by
    obtain⟨x,hx,hv⟩:=a4 t v ht
    exact⟨x,hx,hv.gY (fun b _ _ _ m g=>⟨hh _ _ _ _ g,m⟩) fun _ _ h=>h⟩)
  exact⟨w',h1,fun v g1 g2=>⟨by simp,.inl ⟨B,_,rfl,run_takeDeferred b2,h2 v g1 g2⟩⟩⟩
include hT in
theorem Jx {fn:Func} {res:AV} {nt:Nat} {s:aK} {a:Act} (he:Ends T fn res s) (hr:Rel c nt (fun k=>k<s.next) s.cS s.store a w):
  oX c a.defers w/\∃x β st',(results fn a.tmps).run P w=.ok x w/\bu c st' (fun k=>k<s.next) β w/\bJ (aO c st' β) w bt res x/\
   ∀k o,look k s.store=some o->o.row=false->look k st'=some o:=by
 obtain⟨vs,q,us,h1,hq,h2,h3⟩:=he
 obtain⟨a1,a2,β,a3,a4⟩:=hr
 refine⟨a1,?_⟩
 obtain⟨xs,hxs,hv,hlen⟩:=CI hT a3 a4 (g:=fun x=>match x with
  |ResultVar.tmp t=>pure (a.tmps.getD t undef)
  |ResultVar.cell r t=>do let y <-asAddr (a.tmps.getD r undef);loadVar t y) (fun _=>rfl) (fun _ _=>rfl) h1 hq
 obtain⟨f1,f2,f3⟩:=AG (l:=pick s.store (bI vs)) a3 (fun k o hk=>by
  rw[lT]at hk
  split at hk
  ·exact hk
  ·simp at hk) uB
 have hvs:cH (aO c (cN (fJ (pick s.store (bI vs))) s.store) β) w β vs xs:=hv.mono f2.heap f2.keys
 have hus:=ya f1 f3 h2 hvs
 have hx:∃x,(results fn a.tmps).run P w=.ok x w/\bJ (aO c (cN (fJ (pick s.store (bI vs))) s.store) β) w bt res x:=by
  refine⟨if h:xs.length=1 then xs.toArray[0]'(by simpa using(show 0<xs.length by omega))else .tuple xs.toArray,?_,?_⟩
  ·have key:results fn a.tmps=(do
     let vs <-fn.results.mapM fun x=>match x with
      |ResultVar.tmp t=>pure (a.tmps.getD t undef)
      |ResultVar.cell r t=>do let y <-asAddr (a.tmps.getD r undef);loadVar t y
     pure (if h:vs.size=1 then vs[0]else Value.tuple vs)):=rfl
   rw[key,Sem.run_bind,Array.mapM_eq_mapM_toList,Sem.run_map,hxs]
   simp only[Result.andThen_ok,Sem.run_pure]
   congr 1
  ·unfold fA at h3
   split at h3
   ·rename_i u
    obtain⟨x,rfl,hx⟩:=hus.single
    simp only[List.length_cons,List.length_nil,Nat.zero_add,dite_true,List.getElem_toArray,List.getElem_cons_zero]
    obtain⟨cs,g1,g2⟩:=hx
    exact bw.bP ⟨cs,h3.2 _ _ _ g1,by rw[h3.1];exact g2⟩
   ·rename_i us' vs' hne
    have hl1:¬xs.length=1:=by
     intro hl1
     have:∀{us:List AV} {xs:List Value},cH (aO c (cN (fJ (pick s.store (bI vs))) s.store) β) w bt us xs->us.length=xs.length:=by
      intro us
      induction us with
      |nil=>intro xs h;cases xs with
       |nil=>rfl
       |cons _ _=>exact h.elim
      |cons u us ih=>intro xs h;cases xs with
       |nil=>exact h.elim
       |cons x xs=>simp[ih h.2]
     have hl2:=this hus
     rw[hl1]at hl2
     match us,hl2,hne with
     |[u],_,hne=>exact hne u rfl
    simp only[hl1,dite_false]
    exact⟨xs,rfl,sw h3 hus⟩
   ·exact h3.elim
 obtain⟨x,hx1,hx2⟩:=hx
 refine⟨x,β,_,hx1,f1,hx2,fun k o hk hrow=>?_⟩
 rw[kY]
 have:dm (fJ (pick s.store (bI vs))) k=none:=by
  have gen:∀l:aD,(∀o',look k l=some o'->o'.row=false)->(l.map (·.1)).Nodup->dm (fJ l) k=none:=by
   intro l
   induction l with
   |nil=>intros;rfl
   |cons p l ih=>
    obtain⟨j,oj⟩:=p
    intro h hn
    simp only[List.map_cons,List.nodup_cons]at hn
    by_cases hjk:j=k
    ·subst hjk
     have hrow':=h oj (by simp[look])
     simp only[fJ,hrow',Bool.false_and,Bool.false_eq_true,if_false]
     have hnl:look j l=none:=by
      cases hl:look j l with
      |none=>rfl
      |some o'=>
       exfalso
       apply hn.1
       have:∀l:aD,look j l=some o'->j∈l.map (·.1):=by
        intro l
        induction l with
        |nil=>simp[look]
        |cons q l ih=>
         obtain⟨i,b⟩:=q
         simp only[look]
         split
         ·rename_i hh
          intro _
          have:i=j:=by simpa using hh
          simp[this]
         ·intro h2
          simp only[List.map_cons,List.mem_cons]
          exact .inr (ih h2)
       exact this l hl
     exact ih (fun o' ho'=>by rw[hnl]at ho';simp at ho') hn.2
    ·have ih':=ih (fun o' ho'=>h o' (by simp[look,hjk,ho'])) hn.2
     simp only[fJ]
     split
     ·simp only[dm,ih']
      simp[hjk]
     ·exact ih'
  refine gen _ (fun o' ho'=>?_) uB
  rw[lT]at ho'
  split at ho'
  ·rw[hk]at ho';simp only[ax]at ho';subst ho';exact hrow
  ·simp at ho'
 rw[this];exact hk
structure iW (P:Program) (f:FuncId) (fn:Func) (x:Code):Prop where
 get:P.funcs[f]?=some fn
 body:fn.body=some x
 name:(fn.name== "runtime.NumGoroutine")=false
 dst:cD fn.ntmps x=true
include hT in
theorem Lv {f:FuncId} {fn:Func} {x:Code} (hf:iW P f fn x) {args:List AV} {r:dw} (hk:bI args=[]) (hlen:args.length<=fn.ntmps) (hpost:r.post=[])
  (h:r.need->∀c:Ctx,c.k0=bt->c.ro=none->ay P c fn.ntmps x ⟨aS 0 args,[],0⟩ fun e s'=>(e=.normal\/e=.ret)/\Ends T fn r.res s') (K:Nat) (pre:aD):aN P f K args pre r:=by
 refine aN.frame (pre:=[]) ?_ (fun k o hk=>by simp[look]at hk)
 intro need
 refine⟨fun k o ho=>by rw[hpost]at ho;simp[look]at ho,fun c D D' β w vs hw0 hMw hrel hD hK hv=>.inl ⟨fn,hf.get,hf.name,by simp[hf.body],?_⟩⟩
 have hv0:=hv.bt hk
 have hM0:aO {c with k0:=bt,ro:=none} [] bt=aO c [] β:=by
  funext b
  simp[aO,look]
 have hlv:vs.length=args.length:=by
  have:∀{l:List AV} {xs:List Value},cH (aO c [] β) w β l xs->xs.length=l.length:=by
   intro l
   induction l with
   |nil=>intro xs h;cases xs with
    |nil=>rfl
    |cons _ _=>exact h.elim
   |cons u us ih=>intro xs h;cases xs with
    |nil=>exact h.elim
    |cons x xs=>simp[ih h.2]
  exact this hv
 have hstart:Rel {c with k0:=bt,ro:=none} fn.ntmps (fun k=>k<0) (aS 0 args) [] {tmps:=vs.toArray++Array.replicate (fn.ntmps-vs.toArray.size) undef,defers:=[]} w:=by
  refine⟨.nil,by simp;omega,bt,?_,?_⟩
  ·exact {obj:=fun k o h=>by simp[look]at h,dM:=fun k o h=>by simp[look]at h,inj:=fun k k' o o' b N N' h=>by simp[look]at h,dom:=fun k x h=>by simp[bt]at h,keep:=fun k x h=>h,lt:=fun k b N h=>by simp[bt]at h,os:=hrel.os,tape:=hrel.tape,output:=hrel.output,size:=hrel.size,block:=hrel.block,gB:=hrel.gB,new:=fun k o b N h=>by simp[look]at h}
  ·rw[hM0]
   have:=A2 (pre:=#[]) (post:=Array.replicate (fn.ntmps-vs.toArray.size) undef) hv0 rfl
   simpa using this
 refine callsIn_wide.1 (callsIn_of_wp_marks (F:=Fence.wide) (n:=3) hf.get hf.body trivial (wpIn_mono (h need {c with k0:=bt,ro:=none} rfl rfl _ w hstart) ?_))
 rintro e a' w9 ⟨ae,s',rfl,hr9,hex,hends⟩
 obtain⟨w',hr',hleave⟩:=Rel.leave (P:=P) (fn:=fn) (R:=fun e w'=>∃x,e=.returned x/\eW c [] D' β w (gb r.post) r.res x w') hr9
 obtain⟨hdef,x,β',st',hrun,hw',hvx,_⟩:=Jx hT hends hr'
 have hO:eW c [] D' β w (gb r.post) r.res x w':=by
  rw[hpost]
  refine⟨β,?_,?_,?_⟩
  ·exact {obj:=fun k o h=>by simp[look,gb,cN]at h,dM:=fun k o h=>by simp[look,gb,cN]at h,inj:=fun k k' o o' b N N' h=>by simp[look,gb,cN]at h,dom:=fun k x h=>hD _ (hrel.dom k x h),keep:=hrel.keep,lt:=fun k b N h=>Nat.lt_of_lt_of_le (hrel.lt k b N h) (by have:=hw'.size;rw[<-hw0];exact this),os:=hw'.os,tape:=hw'.tape,output:=hw'.output,size:=hw'.size,block:=hw'.block,gB:=hw'.gB,new:=fun k o b N h=>by simp[look,gb,cN]at h}
  ·refine⟨fun b o hb ho=>⟨?_,hb⟩,fun k x hk=>hk⟩
   have hlt:b<c.w0.heap.size:=by rw[hw0];exact kM ho
   have:=hw'.block b hlt (fun hm=>hb (hMw b hm))
   rw[this]
   show c.w0.heap[b]?=_
   rw[hw0];exact ho
  ·refine hvx.mono (fun b o hb ho=>⟨ho,fun hm=>hb ?_⟩) (fun k x hk=>by simp[bt]at hk)
   rcases hm with hm|⟨k,o,N,h1,_⟩
   ·exact .inl hm
   ·simp[look,gb,cN]at h1
 rcases hex with rfl|rfl
 ·exact hleave x hrun ⟨x,rfl,hO⟩
 ·exact hleave x hrun ⟨x,rfl,hO⟩
include hT in
theorem jN {f:FuncId} {fn:Func} {x:Code} (hf:iW P f fn x) {args:List AV} {r:dw} (hk:bI args=[]) (hlen:args.length<=fn.ntmps) (hpost:r.post=[])
  (h:r.need->∀c:Ctx,c.k0=bt->ay P c fn.ntmps x ⟨aS 0 args,[],0⟩ fun e s'=>(e=.normal\/e=.ret)/\Ends T fn r.res s') (K:Nat) (pre:aD):aN P f K args pre r:=
 Lv hT hf hk hlen hpost (fun need c h0 _=>h need c h0) K pre
end funcs
end Go.Am
namespace Go.Am
open AV
inductive ag (α:Type) where
 |leaf (e:aq) (a:α)
 |aj (l:List Prop) (t:ag α)
 |fork (b:Bool) (t u:ag α)
namespace ag
variable {α β:Type}
def all (Q:aq->α->Prop):ag α->Prop
 |leaf e a=>Q e a
 |aj l t=>au l/\t.all Q
 |fork b t u=>(b=true->t.all Q)/\(b=false->u.all Q)
def need (l:List Prop) (t:ag α):ag α:=match l with
 |[]=>t
 |l=>aj l t
def bind (f:aq->α->Option (ag β)):ag α->Option (ag β)
 |leaf e a=>f e a
 |aj l t=>match t.bind f with
  |some u=>some (aj l u)
  |none=>none
 |fork b t u=>match t.bind f,u.bind f with
  |some t',some u'=>some (fork b t' u')
  |_,_=>none
theorem AH {Q:aq->α->Prop} {l:List Prop} {t:ag α}:(need l t).all Q↔au l/\t.all Q:=by
 cases l with
 |nil=>simp[need,au]
 |cons p l=>exact Iff.rfl
theorem kH {f:aq->α->Option (ag β)} {Q:aq->β->Prop}:∀{t:ag α} {u:ag β},t.bind f=some u->u.all Q->t.all fun e a=>∃v,f e a=some v/\v.all Q
 |leaf e a,u,h,hu=>⟨u,h,hu⟩
 |aj l t,u,h,hu=>by
  simp only[bind]at h
  cases ht:t.bind f with
  |none=>rw[ht]at h;simp at h
  |some v=>
   rw[ht]at h
   simp only[ax]at h
   subst h
   exact⟨hu.1,kH ht hu.2⟩
 |fork b t u,v,h,hv=>by
  simp only[bind]at h
  cases ht:t.bind f with
  |none=>rw[ht]at h;simp at h
  |some t'=>
   cases hu:u.bind f with
   |none=>rw[ht,hu]at h;simp at h
   |some u'=>
    rw[ht,hu]at h
    simp only[ax]at h
    subst h
    exact⟨fun hb=>kH ht (hv.1 hb),fun hb=>kH hu (hv.2 hb)⟩
theorem fO {Q Q':aq->α->Prop} (h:∀e a,Q e a->Q' e a):∀{t:ag α},t.all Q->t.all Q'
 |leaf _ _,ht=>h _ _ ht
 |aj _ _,ht=>⟨ht.1,fO h ht.2⟩
 |fork _ _ _,ht=>⟨fun hb=>fO h (ht.1 hb),fun hb=>fO h (ht.2 hb)⟩
end ag
def yW (forks:List Nat) (ops:List Oper):List Oper->Nat->List (Nat×Nat)
 |[],_=>[]
 |o::l,i=>match o.dst with
  |some d=>if(forks.contains d||(forks.contains (d+100000)||forks.contains (d+200000)))&&ops.any (fun p=>match p.guard with
    |some (g,_)=>g==i
    |none=>false)then(i,if forks.contains d then d else if forks.contains (d+100000)then d+100000 else d+200000)::yW forks ops l (i+1)else yW forks ops l (i+1)
  |none=>yW forks ops l (i+1)
def oL (T:Types) (Γ:aV) (ops:Array Oper) (d:Bool) (s:aK):List (Nat×Nat)->List (Nat×Bool)->Option (ag aK)
 |[],orc=>match qH T Γ orc ops d s with
  |some (s',need)=>some (.need need (.leaf .normal s'))
  |none=>none
 |(g,t)::gs,orc=>match Nat.blt t 100000 with
  |false=>match Nat.blt t 200000 with
   |true=>oL T Γ ops d s gs ((g,true)::orc)
   |false=>oL T Γ ops d s gs ((g,false)::orc)
  |true=>match kT T Γ orc ops.toList (ops.toList.take (g+1)) 0 s with
   |some (s',_,_)=>match look t s'.cS with
    |some (.bool b)=>match oL T Γ ops d s gs ((g,true)::orc),oL T Γ ops d s gs ((g,false)::orc)with
     |some x,some y=>some (.fork b x y)
     |_,_=>none
    |_=>oL T Γ ops d s gs orc
   |none=>none
def aaV (forks:List Nat):Operand->Nat
 |.tmp t=>if forks.contains t then 1 else if forks.contains (t+100000)then 2 else if forks.contains (t+200000)then 3 else 0
 |_=>0
def eI (T:Types) (Γ:aV) (forks:List Nat):Nat->Code->aK->Option (ag aK)
 |0,_,_=>none
 |n+1,c,s=>match c with
  |.skip=>some (.leaf .normal s)
  |.label _=>some (.leaf .normal s)
  |.region _ ops d=>oL T Γ ops d s (yW forks ops.toList ops.toList 0) []
  |.seq x y=>match eI T Γ forks n x s with
   |some t=>t.bind fun e s'=>match e with
    |.normal=>eI T Γ forks n y s'
    |.exit i=>some (.leaf (.exit i) s')
    |.ret=>some (.leaf .ret s')
   |none=>none
  |.cond b x y=>match s.gQ b with
   |some (.bool t)=>match aaV forks b with
    |1=>match eI T Γ forks n x s,eI T Γ forks n y s with
     |some u,some v=>some (.fork t u v)
     |_,_=>none
    |2=>match eI T Γ forks n x s with
     |some u=>some (.aj [t=true] u)
     |none=>none
    |3=>match eI T Γ forks n y s with
     |some u=>some (.aj [t=false] u)
     |none=>none
    |_=>match t with
     |true=>eI T Γ forks n x s
     |false=>eI T Γ forks n y s
   |_=>none
  |.block id x=>match eI T Γ forks n x s with
   |some t=>t.bind fun e s'=>match e with
    |.normal=>some (.leaf .normal s')
    |.exit j=>match j==id with
     |true=>some (.leaf .normal s')
     |false=>some (.leaf (.exit j) s')
    |.ret=>some (.leaf .ret s')
   |none=>none
  |.loop x=>match eI T Γ forks n x s with
   |some t=>t.bind fun e s'=>match e with
    |.normal=>eI T Γ forks n (.loop x) s'
    |.exit j=>some (.leaf (.exit j) s')
    |.ret=>some (.leaf .ret s')
   |none=>none
  |.exit id=>some (.leaf (.exit id) s)
  |.ret=>some (.leaf .ret s)
  |_=>none
section rules
variable {P:Program} {c:Ctx} {nt:Nat} {Q:aq->aK->Prop} {T:Types} (hT:dJ P T) {Γ:aV} (hΓ:bg P Γ) (hm:P.follows .mixedOrders=true)
include hT hΓ hm in
theorem tH {id:Nat} {ops:Array Oper} {d:Bool} (hd:cD nt (.region id ops d)=true) {s:aK}:∀(gs:List (Nat×Nat)) (orc:List (Nat×Bool)) {t:ag aK},oL T Γ ops d s gs orc=some t->t.all Q->
  ay P c nt (.region id ops d) s Q
 |[],orc,t,h,ht=>by
  simp only[oL]at h
  cases hr:qH T Γ orc ops d s with
  |none=>rw[hr]at h;simp at h
  |some q=>
   obtain⟨s',need⟩:=q
   rw[hr]at h
   simp only[ax]at h
   subst h
   obtain⟨h1,h2⟩:=ag.AH.1 ht
   exact .region hT hΓ hm hd hr h1 h2
 |(g,k)::gs,orc,t,h,ht=>by
  simp only[oL]at h
  split at h
  ·split at h
   ·exact tH hd gs _ h ht
   ·exact tH hd gs _ h ht
  ·split at h
   ·split at h
    ·split at h
     ·rename_i x y hx hy
      simp only[ax]at h
      subst h
      exact(Bool.eq_false_or_eq_true _).elim (fun hb=>tH hd gs _ hx (ht.1 hb)) (fun hb=>tH hd gs _ hy (ht.2 hb))
     ·simp at h
    ·exact tH hd gs _ h ht
   ·simp at h
def tZ (P:Program) (c:Ctx) (nt:Nat) (x:Code) (s:aK) (Q:aq->aK->Prop):Prop:=
 ∀a w,Rel c nt (fun k=>k<s.next) s.cS s.store a w->∀(fr:Frame) (k:List Item) (cs:List Frame),fr.roundOf=(gL c.ro).round->(gL c.ro).fn fr.fn->(gL c.ro).room (cs.length+1+3)->∃e a' w',(∃ae t,e=aq.pJ ae/\Rel c nt (fun k=>k<t.next) t.cS t.store a' w'/\Q ae t)/\
  ArrivesIn (Machine.fenced P (gL c.ro)) P (lone (fr.atR a (.code x::.inLoop x::k)) cs w) fr k cs e a' w'
theorem tZ.loop {x:Code} {s:aK} (h:tZ P c nt x s Q):ay P c nt (.loop x) s Q:=by
 intro a w hrel fr k cs h01 h02 h03
 obtain⟨e,a',w',g,harr⟩:=h a w hrel fr k cs h01 h02 h03
 exact⟨e,a',w',g,.of_steps (.one (fenced_calm h02 h03 rfl) stepR_loop) harr⟩
theorem tZ.round {x:Code} {s:aK} (h:ay P c nt x s fun e s'=>match e with
  |.normal=>tZ P c nt x s' Q
  |e=>Q e s'):tZ P c nt x s Q:=by
 intro a w hrel fr k cs h01 h02 h03
 obtain⟨e,a1,w1,⟨ae,t,rfl,g1,g2⟩,harr⟩:=h a w hrel fr (.inLoop x::k) cs h01 h02 h03
 cases ae with
 |normal=>
  obtain⟨e2,a2,w2,hq2,harr2⟩:=g2 a1 w1 g1 fr k cs h01 h02 h03
  exact⟨e2,a2,w2,hq2,.of_steps (StepsIn.trans harr (.one (fenced_calm h02 h03 rfl) stepR_inLoop)) harr2⟩
 |exit i=>exact⟨_,a1,w1,⟨.exit i,t,rfl,g1,g2⟩,.pass (x:=.inLoop x) rfl (fun _ _=>.inl (by simp[aq.pJ])) harr⟩
 |ret=>exact⟨_,a1,w1,⟨.ret,t,rfl,g1,g2⟩,.pass (x:=.inLoop x) rfl (fun _ _=>.inl (by simp[aq.pJ])) harr⟩
include hT hΓ hm in
theorem kX {forks:List Nat}:∀(n:Nat) {x:Code} {s:aK} {Q:aq->aK->Prop},cD nt x=true->∀{t:ag aK},eI T Γ forks n x s=some t->t.all Q->ay P c nt x s Q
 |0,x,s,Q,_,t,h,_=>by simp[eI]at h
 |n+1,.skip,s,Q,_,t,h,ht=>by
  simp only[eI,ax]at h
  subst h;exact .skip ht
 |n+1,.label l,s,Q,_,t,h,ht=>by
  simp only[eI,ax]at h
  subst h;exact .label ht
 |n+1,.exit i,s,Q,_,t,h,ht=>by
  simp only[eI,ax]at h
  subst h;exact .exit ht
 |n+1,.ret,s,Q,_,t,h,ht=>by
  simp only[eI,ax]at h
  subst h;exact .ret ht
 |n+1,.region i ops d,s,Q,hd,t,h,ht=>by
  simp only[eI]at h
  exact tH hT hΓ hm hd _ _ h ht
 |n+1,.seq x y,s,Q,hd,t,h,ht=>by
  simp only[cD,Bool.and_eq_true]at hd
  simp only[eI]at h
  cases hx:eI T Γ forks n x s with
  |none=>rw[hx]at h;simp at h
  |some u=>
   rw[hx]at h
   refine .seq (kX n hd.1 hx (ag.fO ?_ (ag.kH h ht)))
   rintro e s' ⟨v,h1,h2⟩
   cases e with
   |normal=>exact kX n hd.2 h1 h2
   |exit i=>simp only[ax]at h1;subst h1;exact h2
   |ret=>simp only[ax]at h1;subst h1;exact h2
 |n+1,.cond b x y,s,Q,hd,t,h,ht=>by
  simp only[cD,Bool.and_eq_true]at hd
  simp only[eI]at h
  split at h
  ·rename_i t' hb
   split at h
   ·split at h
    ·rename_i u v hu hv
     simp only[ax]at h
     subst h
     exact .cond hb (fun h'=>kX n hd.1 hu (ht.1 h')) (fun h'=>kX n hd.2 hv (ht.2 h'))
    ·simp at h
   ·split at h
    ·rename_i u hu
     simp only[ax]at h
     subst h
     have hb':t'=true:=ht.1
     exact .cond hb (fun _=>kX n hd.1 hu ht.2) (fun h'=>by rw[hb']at h';simp at h')
    ·simp at h
   ·split at h
    ·rename_i u hu
     simp only[ax]at h
     subst h
     have hb':t'=false:=ht.1
     exact .cond hb (fun h'=>by rw[hb']at h';simp at h') (fun _=>kX n hd.2 hu ht.2)
    ·simp at h
   ·split at h
    ·exact .cond hb (fun _=>kX n hd.1 h ht) (fun h'=>by simp at h')
    ·exact .cond hb (fun h'=>by simp at h') (fun _=>kX n hd.2 h ht)
  ·simp at h
 |n+1,.block id x,s,Q,hd,t,h,ht=>by
  simp only[cD]at hd
  simp only[eI]at h
  cases hx:eI T Γ forks n x s with
  |none=>rw[hx]at h;simp at h
  |some u=>
   rw[hx]at h
   refine .block (kX n hd hx (ag.fO ?_ (ag.kH h ht)))
   rintro e s' ⟨v,h1,h2⟩
   cases e with
   |normal=>simp only[ax]at h1;subst h1;exact h2
   |exit j=>
    simp only at h1 ⊢
    cases hj:j==id with
    |true=>
     rw[hj]at h1
     simp only[ax]at h1;subst h1
     rw[if_pos (by simpa using hj)];exact h2
    |false=>
     rw[hj]at h1
     simp only[ax]at h1;subst h1
     rw[if_neg (by simpa using hj)];exact h2
   |ret=>simp only[ax]at h1;subst h1;exact h2
 |n+1,.loop x,s,Q,hd,t,h,ht=>by
  have key:∀(m:Nat) (s:aK) (t:ag aK),m<=n+1->eI T Γ forks m (.loop x) s=some t->t.all Q->tZ P c nt x s Q:=by
   intro m
   induction m with
   |zero=>intro s t _ h;simp[eI]at h
   |succ m ihm=>
    intro s t hmn h ht
    simp only[eI]at h
    cases hx:eI T Γ forks m x s with
    |none=>rw[hx]at h;simp at h
    |some u=>
     rw[hx]at h
     have hlen:m<=n:=aa
     refine .round (kX m (by simpa [cD]using hd) hx (ag.fO ?_ (ag.kH h ht)))
     rintro e s' ⟨v,h1,h2⟩
     cases e with
     |normal=>exact ihm s' v aa h1 h2
     |exit i=>simp only[ax]at h1;subst h1;exact h2
     |ret=>simp only[ax]at h1;subst h1;exact h2
  exact(key (n+1) s t aR h ht).loop
 |n+1,.scope x,s,Q,_,t,h,_=>by simp[eI]at h
 |n+1,.goto l,s,Q,_,t,h,_=>by simp[eI]at h
 |n+1,.refuse l,s,Q,_,t,h,_=>by simp[eI]at h
 |n+1,.rangeFunc _ _ _ _,s,Q,_,t,h,_=>by simp[eI]at h
def zQ (s:aK) (t:Nat):AV:=match look t s.cS with
 |some v=>v
 |none=>.tuple []
def ku (s:aK):List Nat->List AV
 |[]=>[]
 |t::l=>zQ s t::ku s l
def Q5 (st:aD) (ks:List Nat):List Nat:=ks++mM st ks
def bB (ls:List Nat) (s:aK):Option (List AV×aD):=
 some (ku s ls,pick s.store (Q5 s.store (bI (ku s ls))))
def NH (ls:List Nat) (e:aq) (s:aK):Option (ag (List AV×aD)):=
 match bB ls s with
 |some v=>some (.leaf e v)
 |none=>none
def mU (T:Types) (fn:Func) (e:aq) (s:aK):Option (ag (List AV)):=
 match e with
 |.exit _=>none
 |e=>match g8 T s fn.results.toList with
  |some (vs,q)=>match fh (jZ (pick s.store (bI vs))) vs with
   |some us=>some (.need q (.leaf e us))
   |none=>none
  |none=>none
def bF (T:Types) (Γ:aV) (forks:List Nat) (n:Nat) (fn:Func) (x:Code) (s:aK):Option (ag (List AV)):=
 match eI T Γ forks n x s with
 |some t=>t.bind (mU T fn)
 |none=>none
include hT hΓ hm in
theorem ay.ends {fn:Func} {x:Code} {s:aK} {forks:List Nat} (n:Nat) (hd:cD nt x=true) {t:ag (List AV)} (hc:bF T Γ forks n fn x s=some t) {res:AV} (h:t.all fun _ us=>fA us res):
  ay P c nt x s fun e s'=>(e=.normal\/e=.ret)/\Ends T fn res s':=by
 unfold bF at hc
 cases hx:eI T Γ forks n x s with
 |none=>rw[hx]at hc;simp at hc
 |some u=>
  rw[hx]at hc
  refine kX hT hΓ hm n hd hx (ag.fO ?_ (ag.kH hc h))
  rintro e s' ⟨v,h1,h2⟩
  unfold mU at h1
  have key:∀{e':aq},(match g8 T s' fn.results.toList with
    |some (vs,q)=>match fh (jZ (pick s'.store (bI vs))) vs with
     |some us=>some (ag.need q (.leaf e' us))
     |none=>none
    |none=>none)=some v->Ends T fn res s':=by
   intro e' h1
   cases hr:g8 T s' fn.results.toList with
   |none=>rw[hr]at h1;simp at h1
   |some p=>
    obtain⟨vs,q⟩:=p
    rw[hr]at h1
    simp only at h1
    cases hf:fh (jZ (pick s'.store (bI vs))) vs with
    |none=>rw[hf]at h1;simp at h1
    |some us=>
     rw[hf]at h1
     simp only[ax]at h1
     subst h1
     obtain⟨g1,g2⟩:=ag.AH.1 h2
     exact⟨vs,q,us,hr,g1,hf,g2⟩
  cases e with
  |normal=>exact⟨.inl rfl,key h1⟩
  |ret=>exact⟨.inr rfl,key h1⟩
  |exit i=>simp at h1
include hT hΓ hm in
theorem bM {f:FuncId} {fn:Func} {x:Code} (hf:iW P f fn x) {args:List AV} {r:dw} (hk:bI args=[]) (hlen:args.length<=fn.ntmps) (hpost:r.post=[]) {forks:List Nat} (n:Nat) {t:ag (List AV)}
  (hc:bF T Γ forks n fn x ⟨aS 0 args,[],0⟩=some t) (h:r.need->t.all fun _ us=>fA us r.res) (K:Nat) (pre:aD):aN P f K args pre r:=
 jN hT hf hk hlen hpost (fun hn _ _=>.ends hT hΓ hm n hf.dst hc (h hn)) K pre
end rules
end Go.Am
namespace Go.Am
open AV
theorem Ej {v:AV}:bI [v]=keys v:=by simp[bI]
theorem lg {ρ:Nat->Option Nat} {u v:AV} (hk:keys u=[]) (h:bp u v):gV ρ u v:=by
 refine⟨h.1,fun M w β cs hc=>?_⟩
 have:=h.2 M w cs (zU hc (by rw[Ej,hk]))
 exact this.mono (fun b o h1 h2=>⟨h2,h1⟩) _ fun k x hx=>by simp[bt]at hx
theorem gu {ρ:Nat->Option Nat} {u:AV} (hk:keys u=[]):gV ρ u u:=lg hk (.refl u)
theorem gF {ρ:Nat->Option Nat} {k:IntKind} {a b:Int} (h:a=b):gV ρ (.int k a) (.int k b):=h▸gu (by simp[keys])
theorem dx {ρ:Nat->Option Nat} {k k2 es s s2 n n2:Nat} (h:ρ k2=some k) (hs:s=s2) (hn:n=n2):gV ρ (.own k es s n) (.own k2 es s2 n2):=by
 subst hs hn
 refine⟨rfl,fun M w β cs hc=>?_⟩
 cases hc with
 |own h1 h2 h3 h4 h5 h6=>
  cases h6
  exact .own (by simp[h,h1]) h2 h3 h4 h5 .nil
 |own0 h5 h6=>cases h6;exact .own0 h5 .nil
theorem oO {ρ:Nat->Option Nat} {k es:Nat} (h:0<es):gV ρ .nil (.own k es 0 0):=by
 refine⟨rfl,fun M w β cs hc=>?_⟩
 cases hc with
 |vnil h1=>cases h1;exact .own0 h .nil
theorem ot {ρ:Nat->Option Nat} {k k2 idx es off:Nat} {p:List Nat} (h:ρ k2=some k):gV ρ (.ptr k idx es off p) (.ptr k2 idx es off p):=by
 refine⟨rfl,fun M w β cs hc=>?_⟩
 cases hc with
 |ptr h1 h6=>
  cases h6
  exact .ptr (by simp only[h,Option.bind_some];exact h1) .nil
theorem bp.trans {a b c:AV} (h:bp a b) (h':bp b c):bp a c:=⟨h'.1.trans h.1,fun M w cs hc=>h'.2 M w cs (h.2 M w cs hc)⟩
theorem dX {a b:AV} (h:a=b):bp a b:=h▸.refl a
theorem bW {k:IntKind} {a b:Int} (h:a=b):bp (.int k a) (.int k b):=h▸.refl _
theorem gZ {a b:Bool} (h:a=b):bp (.bool a) (.bool b):=h▸.refl _
theorem EK {M:Nat->Prop} {w:World}:∀{us vs:List AV} {cs:List Value},dA us vs->aQ M w bt us cs->aQ M w bt vs cs
 |[],[],_,_,h=>h
 |u::us,v::vs,cs,hl,h=>by
  obtain⟨c1,c2,rfl,h1,h2⟩:=h.split
  exact(hl.1.2 M w c1 h1).cons (EK hl.2 h2)
 |[],_::_,_,h,_=>h.elim
 |_::_,[],_,h,_=>h.elim
theorem cj {us vs:List AV} (h:dA us vs):bp (.agg us) (.agg vs):=by
 refine⟨rfl,fun M w cs hc=>?_⟩
 cases hc with
 |agg h1 h2=>cases h2;exact .agg (EK h h1) .nil
theorem dB {es n:Nat} {f g:Nat->AV} (h:∀i,i<n->bp (f i) (g i)):bp (.ak es n f) (.ak es n g):=by
 refine⟨rfl,fun M w cs hc=>?_⟩
 cases hc with
 |ak h1 h2 h3 h4 h5 h6=>cases h6;exact .ak h1 h2 h3 h4 (fun i hi=>(h i hi).2 _ _ _ (h5 i hi)) .nil
theorem tO {es n m:Nat} {f g:Nat->AV} (hn:n=m) (h:∀i,i<n->f i=g i):bp (.ak es n f) (.ak es m g):=hn▸dB fun i hi=>dX (h i hi)
theorem Q1 {N i:Nat} {v:Value} (h:(th N)[i]?=some v):i<nl N/\v=.int .u32 (aB N i):=by
 simp only[th,List.getElem?_map]at h
 rw[Option.map_eq_some_iff]at h
 obtain⟨a,h1,h2⟩:=h
 by_cases hi:i<nl N
 ·rw[List.getElem?_range hi]at h1
  simp only[ax]at h1
  subst h1
  exact⟨hi,h2.symm⟩
 ·rw[List.getElem?_eq_none (by simpa using hi)]at h1
  simp at h1
def aA (z:Nat->Nat):Nat->AV:=fun i=>.int .u32 (z i:Nat)
theorem lz {n N:Nat} {f:Nat->AV} (hn:nl N=n) (hf:∀i,i<n->f i=.int .u32 (aB N i:Nat)):bp (.ak 1 n f) (.mag N):=by
 subst hn
 refine⟨rfl,fun M w cs hc=>?_⟩
 cases hc with
 |ak h1 h2 h3 h4 h5 h6=>
  rename_i base cap cs cf
  cases h6
  have hcf:∀i,i<nl N->cf i=[.int .u32 (aB N i)]:=fun i hi=>by
   have:=h5 i hi
   rw[hf i hi]at this
   revert this
   generalize cf i=l
   intro this
   cases this with
   |int h=>cases h;rfl
  refine .mag ?_ h3 .nil
  rcases h1 with h1|⟨b,o,rfl,hm⟩
  ·refine .inl ?_
   unfold nl at h1
   split at h1
   ·assumption
   ·omega
  ·by_cases h0:nl N=0
   ·refine .inl ?_
    unfold nl at h0
    split at h0
    ·assumption
    ·omega
   ·refine .inr ⟨b,o,rfl,?_⟩
    obtain⟨c,ty,fr,g1,g2,g3⟩:=hm 0 aa
    refine⟨c,ty,fr,g1,g2,fun i v hv=>?_⟩
    obtain⟨hi,rfl⟩:=Q1 hv
    obtain⟨c',ty',fr',g1',g2',g3'⟩:=hm i hi
    rw[g1]at g1'
    simp only[ax,Obj.cells.injEq]at g1'
    obtain⟨rfl,rfl,rfl⟩:=g1'
    have:=g3' 0 _ (by rw[hcf i hi];rfl)
    simpa using this
theorem KK {N n:Nat} {f:Nat->AV} (hn:n=nl N) (hf:∀i,i<n->f i=.int .u32 (aB N i:Nat)):bp (.mag N) (.ak 1 n f):=by
 subst hn
 refine⟨rfl,fun M w cs hc=>?_⟩
 cases hc with
 |mag h1 h2 h3=>
  cases h3
  refine .ak (cf:=fun i=>[.int .u32 (aB N i)]) ?_ aa h2 (fun _ _=>rfl) (fun i hi=>by rw[hf i hi];exact .int .nil) .nil
  rcases h1 with rfl|⟨b,o,rfl,c,ty,fr,g1,g2,g3⟩
  ·exact .inl (by simp[nl])
  ·refine .inr ⟨b,o,rfl,fun i hi=>⟨c,ty,fr,g1,g2,fun j v hj=>?_⟩⟩
   cases j with
   |zero=>
    simp only[List.getElem?_cons_zero,ax]at hj
    subst hj
    have:=g3 i _ (yO hi)
    simpa using this
   |succ j=>simp at hj
theorem lf {es:Nat} {f:Nat->AV} (h:0<es):bp .nil (.ak es 0 f):=by
 refine⟨rfl,fun M w cs hc=>?_⟩
 cases hc with
 |vnil h1=>
  cases h1
  exact .ak (cf:=fun _=>[]) (.inl rfl) h aa (fun i hi=>aa) (fun i hi=>aa) .nil
theorem kO:bp .nil (.mag 0):=(lf (es:=1) (f:=fun _=>.nil) aa).trans (lz (by simp[nl]) fun i hi=>aa)
theorem sR {b:Bool} {x y:Nat} {q:Rat} {n:Nat} (hs:Sz q n) (hb:b=decide (q<0)) (hx:x=q.num.natAbs) (hy:y=if q.den=1 then 0 else q.den):bp (.agg [.bool b,.mag x,.mag y]) (.rat q n):=by
 subst hb hx
 refine⟨rfl,fun M w cs hc=>?_⟩
 cases hc with
 |agg h1 h2=>
  cases h2
  cases h1 with
  |bool h1=>
   obtain⟨c1,c2,rfl,h1,h2⟩:=h1.split
   have l1:=h1.length
   have l2:=h2.length
   simp only[sizes,size]at l1 l2
   match c1,c2,l1,l2 with
   |[x],[y],_,_=>exact .rat hs h1 (hy▸h2) .nil
theorem Ib {q:Rat} {n:Nat}:bp (.rat q n) (.agg (AV.kids (.rat q n))):=by
 refine⟨rfl,fun M w cs hc=>?_⟩
 cases hc with
 |rat hs h1 h2 h3=>cases h3;exact .agg (.bool (h1.cons h2)) .nil
theorem eE {q:Rat} {n m:Nat} (h:n<=m):bp (.rat q n) (.rat q m):=by
 refine⟨rfl,fun M w cs hc=>?_⟩
 cases hc with
 |rat hs h1 h2 h3=>
  cases h3
  exact .rat ⟨Nat.lt_of_lt_of_le hs.1 (Nat.pow_le_pow_right aa h),Nat.lt_of_lt_of_le hs.2 (Nat.pow_le_pow_right aa h)⟩ h1 h2 .nil
def aG {α:Type}:List Nat->List α->List (Nat×α)
 |k::ks,a::l=>(k,a)::aG ks l
 |_,_=>[]
def fU (ρ:Nat->Option Nat):List AV->List AV->Prop
 |[],[]=>True
 |u::us,v::vs=>(u.isTuple=false/\gV ρ u v)/\fU ρ us vs
 |_,_=>False
def nH (ρ:Nat->Option Nat) (os:aD):aD->Prop
 |[]=>True
 |(k2,o2)::ps=>(∃k1 o1,ρ k2=some k1/\look k1 os=some o1/\eA ρ o1 o2)/\nH ρ os ps
theorem Og {s:aK} {t:Nat} (h:(zQ s t).isTuple=false):look t s.cS=some (zQ s t):=by
 unfold zQ at h ⊢
 split
 ·assumption
 ·rename_i hn
  rw[hn]at h
  simp[isTuple]at h
theorem AL {s:aK}:∀{ls:List Nat} {vs:List AV} {ρ:Nat->Option Nat},fU ρ (ku s ls) vs->∀t v,look t (aG ls vs)=some v->∃u,look t s.cS=some u/\u.isTuple=false/\gV ρ u v
 |[],vs,ρ,_,t,v,h=>by simp[aG,look]at h
 |x::ls,vs,ρ,hle,t,v,h=>by
  cases vs with
  |nil=>exact hle.elim
  |cons b vs=>
   simp only[aG,look]at h
   split at h
   ·rename_i he
    have:x=t:=by simpa using he
    subst this
    simp only[ax]at h
    subst h
    exact⟨_,Og hle.1.1,hle.1.1,hle.1.2⟩
   ·exact AL hle.2 t v h
theorem AQ {os:aD}:∀{ps:aD} {ρ:Nat->Option Nat},nH ρ os ps->∀k2 o2,look k2 ps=some o2->∃k1 o1,ρ k2=some k1/\look k1 os=some o1/\eA ρ o1 o2
 |[],_,_,_,_,h=>by simp[look]at h
 |(j,b)::ps,ρ,hle,t,v,h=>by
  simp only[look]at h
  split at h
  ·rename_i he
   have:j=t:=by simpa using he
   subst this
   simp only[ax]at h
   subst h
   exact hle.1
  ·exact AQ hle.2 t v h
def bA (l:List (Nat×Nat)):Nat->Option Nat:=fun k=>look k l
def jn (nx:Nat) (l:List (Nat×Nat)):Bool:=l.all fun p=>decide (p.1<nx)&&l.all fun q=>p.2!=q.2||p.1==q.1
theorem mo {α:Type} {k:Nat} {a:α}:∀{l:List (Nat×α)},look k l=some a->(k,a)∈l
 |[],h=>by simp[look]at h
 |(j,b)::l,h=>by
  simp only[look]at h
  split at h
  ·rename_i he
   have:j=k:=by simpa using he
   subst this
   simp only[ax]at h
   subst h
   simp
  ·exact List.mem_cons_of_mem _ (mo h)
def sZ (nx:Nat) (ρ:Nat->Option Nat) (os:aD):aD->Prop
 |[]=>True
 |(k2,o2)::ps=>((∃k1 o1,ρ k2=some k1/\look k1 os=some o1/\eA ρ o1 o2)\/(ρ k2=none/\tW o2/\k2<nx))/\sZ nx ρ os ps
theorem nH.IL {nx:Nat} {ρ:Nat->Option Nat} {os:aD}:∀{ps:aD},nH ρ os ps->sZ nx ρ os ps
 |[],_=>trivial
 |(_,_)::_,h=>⟨.inl h.1,nH.IL h.2⟩
theorem Db {nx:Nat} {os:aD}:∀{ps:aD} {ρ:Nat->Option Nat},sZ nx ρ os ps->∀k2 o2,look k2 ps=some o2->(∃k1 o1,ρ k2=some k1/\look k1 os=some o1/\eA ρ o1 o2)\/(ρ k2=none/\tW o2/\k2<nx)
 |[],_,_,_,_,h=>by simp[look]at h
 |(j,b)::ps,ρ,hle,t,v,h=>by
  simp only[look]at h
  split at h
  ·rename_i he
   have:j=t:=by simpa using he
   subst this
   simp only[ax]at h
   subst h
   exact hle.1
  ·exact Db hle.2 t v h
theorem Lg {c:Ctx} {s':aK} {ls:List Nat} {us vs:List AV} {os ps:aD} {nx:Nat} (rl:List (Nat×Nat)) (hv:bB ls s'=some (us,os)) (hk0:∀k x,c.k0 k=some x->look k rl=some k) (hr:jn nx rl=true)
  (hs:fU (bA rl) us vs) (ho:sZ nx (bA rl) os ps):∃ρ,Le c ρ s' ⟨aG ls vs,ps,nx⟩:=by
 unfold bB at hv
 ·simp only[ax,Prod.mk.injEq]at hv
  obtain⟨rfl,rfl⟩:=hv
  have hall:∀p∈rl,p.1<nx/\∀q∈rl,p.2=q.2->p.1=q.1:=fun p hp=>by
   have:=List.all_eq_true.1 hr p hp
   simp only[Bool.and_eq_true,bz]at this
   refine⟨this.1,fun q hq he=>?_⟩
   have h3:=List.all_eq_true.1 this.2 q hq
   simpa [he]using h3
  refine⟨bA rl,?_,AL hs,fun k2 o2 hk=>?_,fun k2 k1 hk=>(hall _ (mo hk)).1,hk0⟩
  ·intro a b k ha hb
   exact(hall _ (mo ha)).2 _ (mo hb) rfl
  ·refine(Db ho k2 o2 hk).imp (fun⟨k1,o1,g1,g2,g3⟩=>⟨k1,o1,g1,?_,g3⟩) id
   rw[lT]at g2
   split at g2
   ·exact g2
   ·simp at g2
theorem dI {c:Ctx} {s':aK} {ls:List Nat} {us vs:List AV} {os ps:aD} {nx:Nat} (rl:List (Nat×Nat)) (hv:bB ls s'=some (us,os)) (hk0:c.k0=bt) (hr:jn nx rl=true)
  (hs:fU (bA rl) us vs) (ho:nH (bA rl) os ps):∃ρ,Le c ρ s' ⟨aG ls vs,ps,nx⟩:=
 Lg rl hv (fun k x hk=>by rw[hk0]at hk;simp[bt]at hk) hr hs ho.IL
theorem jm {ρ:Nat->Option Nat} {r w:Bool} {es n m:Nat} {f g:Nat->AV} (hn:m=n) (h:∀i,i<n->gV ρ (f i) (g i)):eA ρ ⟨r,w,es,n,f⟩ ⟨r,w,es,m,g⟩:=⟨rfl,rfl,rfl,hn,h⟩
theorem eR {P:Program} {f:FuncId} {K:Nat} {args args':List AV} {r:dw} (hf:aN P f K args' [] r) (hk:bI args=[]) (h:dA args args') (pre:aD):aN P f K args pre r:=by
 refine aN.frame (pre:=[]) ?_ (fun k o hk=>by simp[look]at hk)
 intro need
 obtain⟨h1,h2⟩:=hf need
 refine⟨h1,fun c D D' β w vs hw0 hMw hrel hD hK hv=>h2 c D D' β w vs hw0 hMw hrel hD hK ?_⟩
 have h3:=sw h (hv.bt hk)
 exact h3.mono (fun b o h1 h2=>⟨h2,h1⟩) fun k x hx=>by simp[bt]at hx
def bX (g:List AV->Option dw):Spec:=fun _ args pre=>match fh pre args with
 |some ar=>match g ar with
  |some r=>match r.post with
   |[]=>some r
   |_=>none
  |none=>none
 |none=>none
mutual
theorem Jm {pre:aD}:∀{v u:AV},dj pre v=some u->keys u=[]
 |.bool _,u,h=>by simp only[dj,ax]at h;subst h;rfl
 |.int _ _,u,h=>by simp only[dj,ax]at h;subst h;rfl
 |.rat _ _,u,h=>by simp only[dj,ax]at h;subst h;rfl
 |.mag _,u,h=>by simp only[dj,ax]at h;subst h;rfl
 |.ak _ _ _,u,h=>by simp only[dj,ax]at h;subst h;rfl
 |.eB _ _ _ _,u,h=>by simp only[dj,ax]at h;subst h;rfl
 |.nil,u,h|.void,u,h|.str _,u,h=>by simp only[dj,ax]at h;subst h;rfl
 |.bn _,u,h=>by simp only[dj,ax]at h;subst h;rfl
 |.ptr _ _ _ _ _,u,h=>by simp[dj]at h
 |.tuple _,u,h=>by simp[dj]at h
 |.bS c v,u,h=>by
  simp only[dj]at h
  split at h
  ·rename_i m hm
   simp only[ax]at h;subst h
   simp only[keys];exact Jm hm
  ·simp at h
 |.func f l,u,h=>by
  simp only[dj]at h
  split at h
  ·rename_i m hm
   split at h
   ·simp only[ax]at h;subst h
    simp only[keys];exact wv hm
   ·simp at h
  ·simp at h
 |.own k es s n,u,h=>by
  simp only[dj]at h
  split at h
  ·split at h
   ·simp only[ax]at h;subst h;rfl
   ·simp at h
  ·simp at h
 |.agg l,u,h=>by
  simp only[dj]at h
  split at h
  ·rename_i m hm
   simp only[ax]at h;subst h
   simp only[keys];exact wv hm
  ·simp at h
theorem wv {pre:aD}:∀{l m:List AV},fh pre l=some m->bI m=[]
 |[],m,h=>by simp only[fh,ax]at h;subst h;rfl
 |a::l,m,h=>by
  simp only[fh]at h
  split at h
  ·rename_i b m' h1 h2
   simp only[ax]at h;subst h
   simp only[bI,Jm h1,wv h2,List.append_nil]
  ·simp at h
end
theorem cM {P:Program} {f:FuncId} {g:List AV->Option dw} (h:∀K args r,bI args=[]->g args=some r->r.post=[]->aN P f K args [] r):
  ∀K args pre r,bX g K args pre=some r->aN P f K args pre r:=by
 intro K args pre r hg
 unfold bX at hg
 split at hg
 ·rename_i ar has
  split at hg
  ·rename_i r' hr'
   split at hg
   ·rename_i hp
    simp only[ax]at hg
    subst hg
    have hf:=h K ar r' (wv has) hr' hp
    intro need
    obtain⟨h1,h2⟩:=hf need
    refine⟨fun k o ho=>by rw[hp]at ho;simp[look]at ho,fun c D D' β w vs hw0 hMw hrel hD hK hv=>?_⟩
    have hv':cH (aO c pre β) w bt ar vs:=ya hrel (fun _ _ h=>h) has hv
    exact(hf.frame (pre':=pre) (fun k o hk=>by simp[look]at hk)).use need hrel (fun _ _ h=>h) hD hK (hv'.mono (fun b o h1 h2=>⟨h2,h1⟩) fun k x hx=>by simp[bt]at hx)
   ·simp at hg
  ·simp at hg
 ·simp at hg
theorem aP {ρ:Nat->Option Nat} {u:AV} (h1:u.isTuple=false:=by exact rfl) (h2:keys u=[]:=by exact rfl):u.isTuple=false/\gV ρ u u:=⟨h1,gu h2⟩
abbrev bf (P:Program) (s:Spec) (f:FuncId):Prop:=∀K args pre r,s K args pre=some r->aN P f K args pre r
end Go.Am
