/- 'opAV' is right, for every operation. -/
import Derived.Test.YtfjlccdmhpdiiaaGreatZ0
import Derived.Laws.Cover3
import Derived.Laws.Strings
import Derived.Laws.BytesString
import Derived.Laws.Concat
import Derived.RangeFuncRecord
import Derived.Below
set_option linter.unusedVariables false
namespace Go.Am
open AV
section ops
variable {P:Program} {T:Types} (hT:fu P T) {Γ:aX} (hΓ:bq P Γ)
variable {c:Ctx} {st pre:aC} {D D':Nat->Prop} {β:aY} {w:World}
include hT hΓ in
theorem OZ (h:bF c st D β w) (hpre:∀k o,look k pre=some o->look k st=some o) (hD:∀k,D k->D' k) {K:Nat} (hK:∀k,K<=k->k<K+cT->¬D k/\D' k)
  {ρ:Operand->Option AV} {ev:Operand->Value} (hρ:∀x v,ρ x=some v->bK (aO c st β) w β v (ev x)) {o:Oper} {cl:Call} (ho:o.op=.call cl) {r:fk}
  (hr:kz T Γ K ρ pre cl=some r) (need:r.need):lX P (execOp ev o) w (fo c st D' β w r.cu r.val):=by
 have hK0:¬D K/\D' K:=hK K bz (by simp[cT])
 obtain⟨callee,args,argTypes⟩:=cl
 simp only[execOp,ho]
 cases callee with
 |value f=>
  simp only[kz]at hr
  cases hf:ρ f with
  |none=>grind
  |some fv=>
   cases ha:fh ρ args.toList with
   |none=>grind
   |some as'=>
    rw[hf,ha]at hr
    cases fv<;>simp only[reduceCtorEq]at hr
    case func g caps=>
     cases hs:look g Γ with
     |none=>grind
     |some s=>
      rw[hs]at hr
      simp at hr
      cases hq:s K (as'++caps) pre with
      |none=>grind
      |some q=>
       rw[hq]at hr
       simp at hr
       subst hr
       obtain⟨vs,hev,h1,h2⟩:=(hρ f _ hf).func
       have hargs:=cH.append (nY hρ ha) (Kh h1 h2)
       have hinv:=(hΓ g s hs K _ pre q hq).use need h hpre hD hK hargs
       have hd:=hinv.HN
       have e1:(Array.map ev args)++vs.toArray=(List.map ev args.toList++vs).toArray:=by
        simp
       have:(do let d <-resolve ev {callee:=Callee.value f,args:=args,argTypes:=argTypes} o.type;invoke d.target d.args:Sem Next)=callFunc g (List.map ev args.toList++vs).toArray:=by
        rw[<-e1]
        simp only[resolve,hev,Deferred.ofValue]
        show callFunc g ((#[]++Array.map ev args)++vs.toArray)=_
        simp
       grind
 |invoke r m=>cases hr
 |builtin bi=>
  have hint:∀k n,bK (aO c st β) w β (.int k n) (.int k n):=fun k n=>bw.bT (.cD (.int .nil) rfl)
  have hres:(do let d <-resolve ev {callee:=Callee.builtin bi,args:=args,argTypes:=argTypes} o.type;invoke d.target d.args:Sem Next)=
    builtin bi argTypes o.type (args.map fun|.const _=>true|_=>false) (Array.map ev args):=rfl
  rw[hres]
  cases bi<;>simp only[kz,reduceCtorEq]at hr
  case len=>
   cases ht:argTypes[0]? with
   |none=>grind
   |some t=>
    cases ha:fh ρ args.toList with
    |none=>grind
    |some as'=>
     rw[ht,ha]at hr
     match as',ha,hr with
     |[x],ha,hr=>
      simp at hr
      have hv:=nY hρ ha
      obtain⟨xv,hxs,hx⟩:=hv.single
      have hargs:Array.map ev args=#[xv]:=by grind
      rw[hargs]
      cases htl:look t T with
      |none=>grind
      |some ti=>
       rw[htl]at hr
       obtain⟨d,sz,by',z⟩:=ti
       have hu:=(hT t _ htl).dA
       cases d<;>simp only[reduceCtorEq]at hr
       case slice e=>
        cases hn:lenOf x with
        |none=>grind
        |some n=>
         rw[hn]at hr
         simp only[cq,ay]at hr
         subst hr
         obtain⟨base,cap,rfl⟩:=V4 hx hn
         refine cN (x:=.int .i64 n) (w':=w) ?_ (dZ h hD (hint _ _))
         simp[builtin,Builtin.len_,ht,run_underlying hu,goInt]
       case array n e=>
        simp only[cq,ay]at hr
        subst hr
        refine cN (x:=.int .i64 n) (w':=w) ?_ (dZ h hD (hint _ _))
        simp[builtin,Builtin.len_,ht,run_underlying hu,goInt]
     |[],ha,hr=>grind
     |_::_::_,ha,hr=>grind
  case cap=>
   cases ht:argTypes[0]? with
   |none=>grind
   |some t=>
    cases ha:fh ρ args.toList with
    |none=>grind
    |some as'=>
     rw[ht,ha]at hr
     match as',ha,hr with
     |[x],ha,hr=>
      cases x<;>simp only[reduceCtorEq]at hr
      case nil=>
       have hv:=nY hρ ha
       obtain⟨xv,hxs,hx⟩:=hv.single
       have hargs:Array.map ev args=#[xv]:=by grind
       rw[hargs]
       cases htl:look t T with
       |none=>rw[htl]at hr;simp at hr
       |some ti=>
        rw[htl]at hr
        obtain⟨d,sz,by',z⟩:=ti
        have hu:=(hT t _ htl).dA
        cases d<;>simp only[reduceCtorEq]at hr
        case slice e=>
         simp only[cq,ay]at hr
         subst hr
         have hxn:=hx.bT.nil
         subst hxn
         refine cN (x:=.int .i64 0) (w':=w) ?_ (dZ h hD (hint _ _))
         simp[builtin,Builtin.cap_,ht,run_underlying hu,goInt]
     |[],ha,hr=>simp at hr
     |_::_::_,ha,hr=>simp at hr
  case append=>
   cases ht:argTypes[0]? with
   |none=>rw[ht]at hr;simp at hr
   |some t=>
    cases ht2:argTypes[1]? with
    |none=>rw[ht,ht2]at hr;simp at hr
    |some t'=>
     cases ha:fh ρ args.toList with
     |none=>rw[ht,ht2,ha]at hr;simp at hr
     |some as'=>
      rw[ht,ht2,ha]at hr
      match as',ha,hr with
      |[x,y],ha,hr=>
       simp only at hr
       have hv:=nY hρ ha
       obtain⟨xv,yv,hxs,hx,hy⟩:=hv.two
       have hargs:Array.map ev args=#[xv,yv]:=by apply Array.ext';simpa using hxs
       rw[hargs]
       have hat:∀s,(Builtin.append_ argTypes o.type #[s,yv]).run P w=(Builtin.append_ #[t,t'] o.type #[s,yv]).run P w:=fun s=>by
        simp only[Builtin.append_,ht,ht2]
        rfl
       cases htl:look t T with
       |none=>rw[htl]at hr;simp at hr
       |some ti=>
        cases htl2:look t' T with
        |none=>rw[htl,htl2]at hr;obtain⟨d,_,_,_⟩:=ti;cases d<;>simp at hr
        |some ti'=>
         rw[htl,htl2]at hr
         obtain⟨d,sz,by',z⟩:=ti
         obtain⟨d',sz',by'',z'⟩:=ti'
         cases d<;>cases d'<;>simp only[reduceCtorEq]at hr
         case slice.int e k'=>
          cases x<;>try (simp only[reduceCtorEq]at hr)
          case nil=>
           cases y<;>try (simp only[reduceCtorEq]at hr)
           case int ky n=>
            cases ky<;>try (simp only[reduceCtorEq]at hr)
            case i64=>
             cases he:look e T with
             |none=>rw[he]at hr;simp at hr
             |some ei=>
              rw[he]at hr
              simp only at hr
              split at hr
              ·simp at hr
              ·rename_i hc
               simp only[Bool.or_eq_true,beq_iff_eq,bne_iff_ne,ne_eq,not_or,Bool.not_eq_true,Decidable.not_not]at hc
               simp only[ay]at hr
               subst hr
               obtain⟨⟨⟨c1,c2⟩,c3⟩,c4⟩:=hc
               subst c1
               have hxn:=hx.bT.nil
               subst hxn
               have hyn:=hy.bT.int
               subst hyn
               obtain⟨zv,w',hrun,hR⟩:=SE w hT (ty:=o.type) h hD hK0.1 hK0.2 htl htl2 rfl rfl he c2 c3 c4 need.1 need.2
               refine cN ?_ hR
               simp only[builtin,Sem.run_bind,hat,hrun,Result.andThen_ok,Sem.run_pure]
         case slice.slice e e'=>
          cases he:look e T with
          |none=>rw[he]at hr;simp at hr
          |some ei=>
           rw[he]at hr
           simp only at hr
           cases hra:readAll pre ei.size y with
           |none=>rw[hra]at hr;cases x<;>simp at hr
           |some mg=>
            obtain⟨m,g⟩:=mg
            rw[hra]at hr
            cases x<;>try (simp only[reduceCtorEq]at hr)
            case nil=>
             split at hr
             ·simp at hr
             ·rename_i hc
              simp only[Bool.or_eq_true,beq_iff_eq,bne_iff_ne,ne_eq,not_or,Bool.not_eq_true,Decidable.not_not]at hc
              simp only[ay]at hr
              subst hr
              have:=hx.bT.nil
              subst this
              have hb:(0<m\/m=0)/\m*(ei.bytes+1)*2<=2^47:=by
               refine⟨aa,?_⟩
               unfold fk.need at need
               cases hz:Fh Γ with
               |true=>rw[hz]at need;exact need
               |false=>rw[hz]at need;exact need.2
              obtain⟨hb1,hb2⟩:=hb
              rcases hb1 with hb1|hb1
              ·obtain⟨zv,w',hrun,hR⟩:=Y4 hT (ty:=o.type) h hpre hD hK0.1 hK0.2 htl htl2 rfl rfl he hc.1.1 hc.1.2 hc.2 hy.bT hra hb1 hb2
               refine cN ?_ hR
               simp only[builtin,Sem.run_bind,hat,hrun,Result.andThen_ok,Sem.run_pure]
              ·subst hb1
               obtain⟨zv,w',hrun,hR⟩:=ZK hT (ty:=o.type) h hpre hD hK0.1 hK0.2 htl htl2 rfl rfl he hc.1.1 hc.2 hy.bT hra
               refine cN ?_ hR
               simp only[builtin,Sem.run_bind,hat,hrun,Result.andThen_ok,Sem.run_pure]
            case own k es s n=>
             cases s with
             |succ s=>exact absurd (show(none:Option fk)=some r from hr) (by simp)
             |zero=>
              simp only at hr
              cases hk:look k pre with
              |none=>rw[hk]at hr;simp at hr
              |some ob=>
               rw[hk]at hr
               simp only at hr
               split at hr
               ·rename_i hc
                simp only[Bool.and_eq_true,beq_iff_eq,bne_iff_ne,ne_eq,Bool.not_eq_true']at hc
                obtain⟨⟨⟨⟨⟨⟨⟨c1,c2⟩,c3⟩,c4⟩,c5⟩,c6⟩,c7⟩,c8⟩:=hc
                simp only[ay]at hr
                subst hr
                subst c4
                obtain⟨zv,w',hrun,hR,_⟩:=KP hT (ty:=o.type) h hpre hD hK0.1 hK0.2 htl htl2 rfl rfl he c5 c6 c7 hy.bT hra hx.bT (hpre k ob hk) c1 c2 c3 need
                refine cN ?_ hR
                simp only[builtin,Sem.run_bind,hat,hrun,Result.andThen_ok,Sem.run_pure]
               ·simp at hr
      |[],ha,hr=>simp at hr
      |[_],ha,hr=>simp at hr
      |_::_::_::_,ha,hr=>simp at hr
  case copy=>
   cases ht:argTypes[0]? with
   |none=>rw[ht]at hr;simp at hr
   |some t=>
    cases ht2:argTypes[1]? with
    |none=>rw[ht,ht2]at hr;simp at hr
    |some t'=>
     cases ha:fh ρ args.toList with
     |none=>rw[ht,ht2,ha]at hr;simp at hr
     |some as'=>
      rw[ht,ht2,ha]at hr
      match as',ha,hr with
      |[x,y],ha,hr=>
       simp only at hr
       have hv:=nY hρ ha
       obtain⟨xv,yv,hxs,hx,hy⟩:=hv.two
       have hargs:Array.map ev args=#[xv,yv]:=by apply Array.ext';simpa using hxs
       rw[hargs]
       have hat:∀s,(Builtin.copy_ argTypes o.type #[s,yv]).run P w=(Builtin.copy_ #[t,t'] o.type #[s,yv]).run P w:=fun s=>by
        simp only[Builtin.copy_,ht]
        rfl
       cases htl:look t T with
       |none=>rw[htl]at hr;simp at hr
       |some ti=>
        cases htl2:look t' T with
        |none=>rw[htl,htl2]at hr;obtain⟨d,_,_,_⟩:=ti;cases d<;>simp at hr
        |some ti'=>
         rw[htl,htl2]at hr
         obtain⟨d,sz,by',z⟩:=ti
         obtain⟨d',sz',by'',z'⟩:=ti'
         cases d<;>cases d'<;>simp only[reduceCtorEq]at hr
         case slice.slice e e'=>
          cases he:look e T with
          |none=>rw[he]at hr;simp at hr
          |some ei=>
           rw[he]at hr
           simp only at hr
           cases hra:readAll pre ei.size y with
           |none=>rw[hra]at hr;cases x<;>simp at hr
           |some mg=>
            obtain⟨m,g⟩:=mg
            rw[hra]at hr
            cases x<;>simp only[reduceCtorEq]at hr
            case own k es s n=>
             cases hk:look k pre with
             |none=>rw[hk]at hr;simp at hr
             |some ob=>
              rw[hk]at hr
              simp only at hr
              split at hr
              ·rename_i hc
               simp only[Bool.and_eq_true,beq_iff_eq,Bool.not_eq_true']at hc
               obtain⟨⟨⟨⟨c1,c2⟩,c3⟩,c4⟩,c5⟩:=hc
               simp only[ay]at hr
               subst hr
               subst c4
               obtain⟨zv,w',hrun,hR⟩:=ac2 hT (t':=t') (ty:=o.type) h hpre hD htl rfl he hy.bT hra hx.bT (hpre k ob hk) c1 c2 c3
               refine cN ?_ hR
               simp only[builtin,Sem.run_bind,hat,hrun,Result.andThen_ok,Sem.run_pure]
              ·simp at hr
      |[],ha,hr=>simp at hr
      |[_],ha,hr=>simp at hr
      |_::_::_::_,ha,hr=>simp at hr
  case clear=>
   cases ht:argTypes[0]? with
   |none=>rw[ht]at hr;simp at hr
   |some t=>
    cases ha:fh ρ args.toList with
    |none=>rw[ht,ha]at hr;simp at hr
    |some as'=>
     rw[ht,ha]at hr
     match as',ha,hr with
     |[x],ha,hr=>
      cases x<;>simp only[reduceCtorEq]at hr
      case own k es s n=>
       have hv:=nY hρ ha
       obtain⟨xv,hxs,hx⟩:=hv.single
       have hargs:Array.map ev args=#[xv]:=by apply Array.ext';simpa using hxs
       rw[hargs]
       have hat:∀s,(Builtin.clear_ argTypes o.type #[s]).run P w=(Builtin.clear_ #[t] o.type #[s]).run P w:=fun s=>by
        simp only[Builtin.clear_,ht]
        rfl
       cases htl:look t T with
       |none=>rw[htl]at hr;simp at hr
       |some ti=>
        rw[htl]at hr
        obtain⟨d,sz,by',z⟩:=ti
        cases d<;>simp only[reduceCtorEq]at hr
        case slice e=>
         cases he:look e T with
         |none=>rw[he]at hr;simp at hr
         |some ei=>
          cases hk:look k pre with
          |none=>rw[he,hk]at hr;simp at hr
          |some ob=>
           rw[he,hk]at hr
           simp only at hr
           split at hr
           ·rename_i hc
            simp only[Bool.and_eq_true,beq_iff_eq,Bool.not_eq_true']at hc
            obtain⟨⟨⟨⟨⟨c1,c2⟩,c3⟩,c4⟩,c5⟩,c6⟩:=hc
            simp only[ay]at hr
            subst hr
            subst c4
            obtain⟨zv,w',hrun,hR⟩:=TV hT (ty:=o.type) h hD htl rfl he c5 c6 hx.bT (hpre k ob hk) c1 c2 c3
            refine cN ?_ hR
            simp only[builtin,Sem.run_bind,hat,hrun,Result.andThen_ok,Sem.run_pure]
           ·simp at hr
     |[],ha,hr=>simp at hr
     |_::_::_,ha,hr=>simp at hr
  case min=>
   cases ha:fh ρ args.toList with
   |none=>rw[ha]at hr;simp at hr
   |some as'=>
    rw[ha]at hr
    match as',ha,hr with
    |[.int k a,.int j b],ha,hr=>
     simp only at hr
     split at hr
     ·rename_i hk
      have:=CF hk
      subst this
      simp only[cq,ay]at hr
      subst hr
      obtain⟨xv,yv,hxs,hx,hy⟩:=(nY hρ ha).two
      have hargs:Array.map ev args=#[xv,yv]:=by apply Array.ext';simpa using hxs
      rw[hargs,hx.Ci,hy.Ci]
      refine cN (x:=.int k (if b<a then b else a)) (w':=w) ?_ (dZ h hD (hint _ _))
      simp[builtin,Builtin.min_,Builtin.min2]
     ·simp at hr
  case max=>
   cases ha:fh ρ args.toList with
   |none=>rw[ha]at hr;simp at hr
   |some as'=>
    rw[ha]at hr
    match as',ha,hr with
    |[.int k a,.int j b],ha,hr=>
     simp only at hr
     split at hr
     ·rename_i hk
      have:=CF hk
      subst this
      simp only[cq,ay]at hr
      subst hr
      obtain⟨xv,yv,hxs,hx,hy⟩:=(nY hρ ha).two
      have hargs:Array.map ev args=#[xv,yv]:=by apply Array.ext';simpa using hxs
      rw[hargs,hx.Ci,hy.Ci]
      refine cN (x:=.int k (if a<b then b else a)) (w':=w) ?_ (dZ h hD (hint _ _))
      simp[builtin,Builtin.max_,Builtin.max2]
     ·simp at hr
end ops
end Go.Am
namespace Go.Am
open AV
section ops
variable {P:Program} {T:Types} (hT:fu P T) {Γ:aX} (hΓ:bq P Γ)
variable {c:Ctx} {st pre:aC} {D D':Nat->Prop} {β:aY} {w:World}
omit hT hΓ in
theorem afW {v:AV} {k:Nat} {o:au} (h:tF pre v=some (k,o)):v=.ptr k 0 o.es 0 []/\look k pre=some o/\o.row=false/\o.len=1/\(o.f 0).keys=[]:=by
 unfold tF at h
 split at h
 ·split at h
  ·split at h
   ·rename_i hc
    simp only[ay,Prod.mk.injEq]at h
    obtain⟨rfl,rfl⟩:=h
    simp only[Bool.and_eq_true,Bool.not_eq_true',beq_iff_eq,List.isEmpty_iff]at hc
    obtain⟨⟨⟨⟨h1,h2⟩,h3⟩,h4⟩,_⟩:=hc
    subst h2
    exact⟨rfl,‹_›,h1,h3,h4⟩
   ·simp at h
  ·simp at h
 ·simp at h
omit hT hΓ in
theorem OY {st:aC} (h:bF c st D β w) (hpre:∀k o,look k pre=some o->∃o',look k st=some o'/\(o'=o\/o'={o with wr:=false})):
  ∀{l:List AV} {cs:List Value},aN (aO c st β) w β l cs->bF c (cM (qC pre l) st) D β w/\cV (aO c st β) w β (aO c (cM (qC pre l) st) β) w β/\aN (aO c (cM (qC pre l) st) β) w β (r5 pre l) cs:=by
 intro l
 induction l generalizing st with
 |nil=>exact fun hc=>⟨h,cV.refl _ _ _,hc⟩
 |cons v l ih=>
  intro cs hc
  obtain⟨c1,c2,rfl,h1,h2⟩:=hc.split
  unfold qC r5
  cases hv:tF pre v with
  |none=>
   obtain⟨q1,q2,q3⟩:=ih h hpre h2
   exact⟨q1,q2,(h1.iM q2).cons q3⟩
  |some p=>
   obtain⟨k,o⟩:=p
   obtain⟨rfl,a2,a3,a4,a5⟩:=afW hv
   obtain⟨o',b1,b2⟩:=hpre k o a2
   have b3:({o' with wr:=false}:au)={o with wr:=false}:=by rcases b2 with rfl|rfl<;>rfl
   obtain⟨f1,f2⟩:=h.freeze b1
   rw[b3]at f1 f2
   have hpre':∀k' o1,look k' pre=some o1->∃o2,look k' (put k {o with wr:=false} st)=some o2/\(o2=o1\/o2={o1 with wr:=false}):=fun k' o1 hk'=>by
    by_cases hkk:k'=k
    ·subst hkk
     rw[a2]at hk'
     simp only[ay]at hk'
     subst hk'
     exact⟨_,jd,.inr rfl⟩
    ·rw[gl hkk];exact hpre k' o1 hk'
   obtain⟨q1,q2,q3⟩:=ih f1 hpre' (h2.iM f2)
   simp only[cM]
   refine⟨q1,f2.trans q2,?_⟩
   cases h1 with
   |ptr hb hn=>
    cases hn
    rename_i b N
    obtain⟨b',N',cells,ty,e1,e2,e3,e4,e5,e6,e7,e8⟩:=f1.obj k _ jd _ hb
    rw[hb]at e1
    simp only[ay,Prod.mk.injEq]at e1
    obtain⟨rfl,rfl⟩:=e1
    obtain⟨ps,g1,g2,g3⟩:=e8 0 (by simp only[a4];omega)
    have g2:aN _ w (if o.row=true then bG else β) [o.f 0] ps:=g2
    have g4:aN (aO c (put k {o with wr:=false} st) β) w bG [o.f 0] ps:=BY g2 (by simp[bH,a5])
    have hin:iy (aO c (put k {o with wr:=false} st) β) w b 0 ps:=⟨cells,ty,_,e2,e7 rfl,fun i u hu=>by have:=g3 i u hu;rw[Nat.zero_mul,Nat.zero_add]at this;rw[Nat.zero_add];exact this⟩
    have hz:0*o.es+0=0:=aa
    rw[hz]
    exact(aN.bg (g4.pz q2) (hin.mono q2.heap) .nil).cons q3
include hT hΓ in
theorem vE (h:bF c st D β w) (hpre:∀k o,look k pre=some o->look k st=some o) (hD:∀k,D k->D' k) {K:Nat} (hK:∀k,K<=k->k<K+cT->¬D k/\D' k)
  {ρ:Operand->Option AV} {ev:Operand->Value} (hρ:∀x v,ρ x=some v->bK (aO c st β) w β v (ev x)) {o:Oper} {r:fk}
  (hr:fH T Γ K ρ pre o.op=some r) (need:r.need):lX P (execOp ev o) w (fo c st D' β w r.cu r.val):=by
 have hK0:¬D K/\D' K:=hK K bz (by simp[cT])
 have hint:∀k n,bK (aO c st β) w β (.int k n) (.int k n):=fun k n=>bw.bT (.cD (.int .nil) rfl)
 have hbool:∀t,bK (aO c st β) w β (.bool t) (.bool t):=fun t=>bw.bT (.cD (.bool .nil) rfl)
 obtain⟨dst,op,type,pos,after,guard⟩:=o
 cases op
 case call cl=>exact OZ hT hΓ h hpre hD hK hρ rfl (by simpa [fH]using hr) need
 all_goals simp only[fH,reduceCtorEq]at hr
 case move x=>
  cases hx:ρ x with
  |none=>rw[hx]at hr;simp at hr
  |some v=>
   rw[hx]at hr
   simp only[cq,ay]at hr
   subst hr
   exact cN (x:=ev x) (w':=w) rfl (dZ h hD (hρ x v hx))
 case assign x=>
  cases hx:ρ x with
  |none=>rw[hx]at hr;simp at hr
  |some v=>
   rw[hx]at hr
   simp only[cq,ay]at hr
   subst hr
   exact cN (x:=ev x) (w':=w) rfl (dZ h hD (hρ x v hx))
 case pick cnd a b=>
  cases hc:ρ cnd with
  |none=>rw[hc]at hr;simp at hr
  |some cv=>
   rw[hc]at hr
   cases cv<;>simp only[reduceCtorEq]at hr
   case bool t=>
    have hev:=(hρ cnd _ hc).bool
    cases ha:ρ a with
    |none=>rw[ha]at hr;simp at hr
    |some av=>
     cases hb:ρ b with
     |none=>rw[ha,hb]at hr;cases av<;>simp at hr
     |some bv=>
      rw[ha,hb]at hr
      have hrun:(execOp ev {dst:=dst,op:=Op.pick cnd a b,type:=type,pos:=pos,after:=after,guard:=guard}).run P w=.ok (.value (if t then ev a else ev b)) w:=by
       simp[execOp,hev,asBool]
      cases t with
      |true=>
       have hr':r=⟨av,[],[]⟩:=by cases av<;>cases bv<;>simp[cq]at hr<;>exact hr.symm
       subst hr'
       exact cN hrun (dZ h hD (by simpa using hρ a av ha))
      |false=>
       have hr':r=⟨bv,[],[]⟩:=by cases av<;>cases bv<;>simp[cq]at hr<;>exact hr.symm
       subst hr'
       exact cN hrun (dZ h hD (by simpa using hρ b bv hb))
 case alloc t=>
  cases ht:look t T with
  |none=>rw[ht]at hr;simp at hr
  |some ti=>
   rw[ht]at hr
   simp only at hr
   split at hr
   ·simp at hr
   ·rename_i hc
    simp only[Bool.or_eq_true,beq_iff_eq,bne_iff_ne,ne_eq,not_or,Bool.not_eq_true,Decidable.not_not]at hc
    simp only[ay]at hr
    subst hr
    obtain⟨x,w',hrun,hR⟩:=acH hT h hD hK0.1 hK0.2 ht hc.1.1 hc.1.2 hc.2
    refine cN ?_ hR
    simp only[execOp,Sem.run_bind,hrun,Result.andThen_ok,Sem.run_pure]
 case box t x=>
  cases hx:ρ x with
  |none=>rw[hx]at hr;simp at hr
  |some v=>
   rw[hx]at hr
   simp only at hr
   split at hr
   ·simp at hr
   ·rename_i hc
    simp only[Bool.or_eq_true,beq_iff_eq,not_or,Bool.not_eq_true]at hc
    simp only[ay]at hr
    subst hr
    obtain⟨y,w',hrun,hR⟩:=aiU (P:=P) (t:=t) h hD hK0.1 hK0.2 ((hρ x v hx).one hc.2) hc.1
    refine cN ?_ hR
    simp only[execOp,Sem.run_bind,hrun,Result.andThen_ok,Sem.run_pure]
 case build t ps=>
  cases ht:look t T with
  |none=>rw[ht]at hr;simp at hr
  |some ti=>
   cases hp:kj ρ ps.toList with
   |none=>rw[ht,hp]at hr;simp at hr
   |some l=>
    rw[ht,hp]at hr
    simp only at hr
    split at hr
    ·simp at hr
    ·rename_i hc
     simp only[Bool.or_eq_true,Bool.not_eq_true',not_or,Bool.not_eq_false]at hc
     cases hs:tB T ti.desc ti.zero.kids l with
     |none=>rw[hs]at hr;simp at hr
     |some m=>
      rw[hs]at hr
      simp only[cq,ay]at hr
      subst hr
      obtain⟨y,hrun,hR⟩:=RP hT (w:=w) ht (cH.parts hρ hp) hc.2 hs hc.1
      refine cN (x:=y) (w':=w) ?_ (dZ h hD hR.bT)
      have e1:(Array.map (fun x:Nat×Operand=>match x with|(i,x)=>(i,ev x)) ps)=(List.map (fun p:Nat×Operand=>(p.1,ev p.2)) ps.toList).toArray:=by
       apply Array.ext';simp
      simp only[execOp,Sem.run_bind,e1,hrun,Result.andThen_ok,Sem.run_pure]
 case buildSlice t n ps=>
  cases ht:look t T with
  |none=>rw[ht]at hr;simp at hr
  |some ti=>
   cases hp:kj ρ ps.toList with
   |none=>rw[ht,hp]at hr;obtain⟨d,_,_,_⟩:=ti;cases d<;>simp at hr
   |some l=>
    rw[ht,hp]at hr
    obtain⟨d,sz,by',z⟩:=ti
    cases d<;>simp only[reduceCtorEq]at hr
    case slice e=>
     cases he:look e T with
     |none=>rw[he]at hr;simp at hr
     |some ei=>
      rw[he]at hr
      simp only at hr
      split at hr
      ·simp at hr
      ·rename_i hc
       simp only[Bool.or_eq_true,beq_iff_eq,bne_iff_ne,ne_eq,not_or,Bool.not_eq_true,Decidable.not_not]at hc
       cases hs:s6 ei.size (List.replicate n ei.zero) l with
       |none=>rw[hs]at hr;simp at hr
       |some m=>
        rw[hs]at hr
        simp only at hr
        cases hf:fA pre m with
        |none=>rw[hf]at hr;simp at hr
        |some m'=>
         rw[hf]at hr
         simp only[ay]at hr
         subst hr
         obtain⟨y,w',hrun,hR⟩:=Zl hT h hpre hD hK0.1 hK0.2 ht rfl he hc.1.1 hc.1.2 hc.2 (cH.parts hρ hp) hs hf need
         refine cN ?_ hR
         have e1:(Array.map (fun x:Nat×Operand=>match x with|(i,x)=>(i,ev x)) ps)=(List.map (fun p:Nat×Operand=>(p.1,ev p.2)) ps.toList).toArray:=by
          apply Array.ext';simp
         simp only[execOp,Sem.run_bind,e1,hrun,Result.andThen_ok,Sem.run_pure]
 case load t a=>
  cases ht:look t T with
  |none=>rw[ht]at hr;simp at hr
  |some ti=>
   cases ha:ρ a with
   |none=>rw[ht,ha]at hr;simp at hr
   |some p=>
    rw[ht,ha]at hr
    simp only at hr
    obtain⟨e1,y,hrun,hR⟩:=PZ hT h hpre ht (hρ a p ha) hr need
    refine cN (x:=y) (w':=w) ?_ (by rw[e1];exact dZ h hD hR.bT)
    simp only[execOp,Sem.run_bind,hrun,Result.andThen_ok,Sem.run_pure]
 case store t a x=>
  cases ht:look t T with
  |none=>rw[ht]at hr;simp at hr
  |some ti=>
   cases ha:ρ a with
   |none=>rw[ht,ha]at hr;simp at hr
   |some p=>
    cases hx:ρ x with
    |none=>rw[ht,ha,hx]at hr;simp at hr
    |some v=>
     rw[ht,ha,hx]at hr
     simp only at hr
     obtain⟨w',hrun,hR⟩:=VS hT h hpre hD ht (hρ a p ha) (hρ x v hx) hr need
     refine .inr (.inl ⟨w',?_,hR⟩)
     simp only[execOp,Sem.run_bind,hrun,Result.andThen_ok,Sem.run_pure]
 case nilCheck x=>
  cases hx:ρ x with
  |none=>rw[hx]at hr;simp at hr
  |some v=>
   rw[hx]at hr
   have hv:=hρ x v hx
   cases v<;>simp only[cq,ay,reduceCtorEq]at hr
   case ptr=>
    subst hr
    obtain⟨b,N,_,he⟩:=hv.ptr
    refine cN (x:=ev x) (w':=w) ?_ (dZ h hD hv)
    simp[execOp,he]
   case bg=>
    subst hr
    obtain⟨b,o,ps,he,_⟩:=hv.bg
    refine cN (x:=ev x) (w':=w) ?_ (dZ h hD hv)
    simp[execOp,he]
   case func=>
    subst hr
    obtain⟨vs,he,_⟩:=hv.func
    refine cN (x:=ev x) (w':=w) ?_ (dZ h hD hv)
    simp[execOp,he]
 case binOp op t x y ty=>
  cases hx:ρ x with
  |none=>rw[hx]at hr;simp at hr
  |some a=>
   cases hy:ρ y with
   |none=>rw[hx,hy]at hr;simp at hr
   |some b=>
    rw[hx,hy]at hr
    simp only at hr
    obtain⟨e1,z,hrun,hR⟩:=Uo hT (op:=op) (t:=t) (t':=t) (x:=x) (y:=y) (hρ x a hx) (hρ y b hy) hr need
    refine cN (x:=z) (w':=w) ?_ (by rw[e1];exact dZ h hD hR.bT)
    simp only[execOp]
    rw[Sem.run_bind,hrun]
    rfl
 case unOp op t x=>
  cases hx:ρ x with
  |none=>rw[hx]at hr;cases op<;>simp at hr
  |some v=>
   rw[hx]at hr
   have hv:=hρ x v hx
   cases op<;>cases v<;>simp only[cq,ay,reduceCtorEq]at hr
   case not.bool b=>
    subst hr
    have:=hv.bool
    refine cN (x:=.bool (!b)) (w':=w) ?_ (dZ h hD (hbool _))
    simp[execOp,this,Op.unary]
   case neg.int k n=>
    subst hr
    have:=hv.int
    refine cN (x:=.int k (k.wrap (0-n))) (w':=w) ?_ (dZ h hD (hint _ _))
    simp[execOp,this,Op.unary,Op.intArith]
   case xor.int k n=>
    subst hr
    have:=hv.int
    refine cN (x:=.int k (k.wrap ((BitVec.ofInt k.bits (if k.signed then-1 else k.max)^^^BitVec.ofInt k.bits n).toNat:Int))) (w':=w) ?_ (dZ h hD (hint _ _))
    simp only[execOp,this,Op.unary,Op.intBits]
    rfl
 case convert s d x=>
  cases hs:look s T with
  |none=>rw[hs]at hr;simp at hr
  |some si=>
   cases hd:look d T with
   |none=>rw[hs,hd]at hr;obtain⟨sd,_,_,_⟩:=si;cases sd<;>simp at hr
   |some di=>
    rw[hs,hd]at hr
    obtain⟨sd,_,_,_⟩:=si
    obtain⟨dd,_,_,_⟩:=di
    cases sd<;>cases dd<;>try (simp only[reduceCtorEq]at hr;done)
    case int.int k1 k=>
     cases hx:ρ x with
     |none=>rw[hx]at hr;simp at hr
     |some v=>
      rw[hx]at hr
      have hv:=hρ x v hx
      cases v<;>simp only[cq,ay,reduceCtorEq]at hr
      case int k2 n=>
       subst hr
       have hev:=hv.int
       have hus:=(hT _ _ hs).dA
       have hud:=(hT _ _ hd).dA
       refine cN (x:=.int k (k.wrap n)) (w':=w) ?_ (dZ h hD (hint _ _))
       simp[execOp,hev,convert,run_underlying hus,run_underlying hud,Conv.intToInt]
 case sliceToArrayPointer t x=>
  cases ht:look t T with
  |none=>rw[ht]at hr;simp at hr
  |some ti=>
   cases hx:ρ x with
   |none=>rw[ht,hx]at hr;obtain⟨d,_,_,_⟩:=ti;cases d<;>simp at hr
   |some v=>
    rw[ht,hx]at hr
    have hv:=hρ x v hx
    obtain⟨d,sz,by',z⟩:=ti
    cases d<;>try (simp only[reduceCtorEq]at hr;done)
    case array m e=>
     cases v<;>try (simp only[reduceCtorEq]at hr;done)
     case ak es n f=>
      simp only at hr
      cases he:look e T with
      |none=>rw[he]at hr;simp at hr
      |some ei=>
       rw[he]at hr
       simp only at hr
       split at hr
       ·rename_i hc
        simp only[Bool.and_eq_true,beq_iff_eq,bne_iff_ne,ne_eq]at hc
        simp only[ay]at hr
        subst hr
        obtain⟨zv,hrun,hR⟩:=Zk hT h hD ht rfl hv hc.2 need
        refine cN ?_ hR
        simp only[execOp,Sem.run_bind,hrun,Result.andThen_ok,Sem.run_pure]
       ·simp at hr
 case makeSlice t l cp=>
  cases ht:look t T with
  |none=>rw[ht]at hr;simp at hr
  |some ti=>
   cases hl:ρ l with
   |none=>rw[ht,hl]at hr;obtain⟨d,_,_,_⟩:=ti;cases d<;>simp at hr
   |some lv=>
    cases hc:ρ cp with
    |none=>rw[ht,hl,hc]at hr;obtain⟨d,_,_,_⟩:=ti;cases d<;>cases lv<;>(try (rename_i k _;cases k))<;>simp at hr
    |some cv=>
     rw[ht,hl,hc]at hr
     obtain⟨d,sz,by',z⟩:=ti
     cases d<;>try (simp only[reduceCtorEq]at hr;done)
     case slice e=>
      have hlv:=hρ l lv hl
      have hcv:=hρ cp cv hc
      cases lv<;>try (simp only[reduceCtorEq]at hr;done)
      case int k n=>
       cases k<;>try (simp only[reduceCtorEq]at hr;done)
       case i64=>
        cases cv<;>try (simp only[reduceCtorEq]at hr;done)
        case int k m=>
         cases k<;>try (simp only[reduceCtorEq]at hr;done)
         case i64=>
          simp only at hr
          cases he:look e T with
          |none=>rw[he]at hr;simp at hr
          |some ei=>
           rw[he]at hr
           simp only at hr
           split at hr
           ·simp at hr
           ·rename_i hcc
            simp only[Bool.or_eq_true,beq_iff_eq,bne_iff_ne,ne_eq,not_or,Bool.not_eq_true,Decidable.not_not]at hcc
            simp only[ay]at hr
            subst hr
            obtain⟨x,w',hrun,hR,_⟩:=ME hT h hD hK0.1 hK0.2 ht rfl he hcc.1.1 hcc.1.2 hcc.2 need.1 need.2.1 need.2.2.1 need.2.2.2
            refine cN ?_ hR
            simp only[execOp,Sem.run_bind,hlv.int,hcv.int,hrun,Result.andThen_ok,Sem.run_pure]
 case slice t x lo hi mx=>
  cases ht:look t T with
  |none=>rw[ht]at hr;simp at hr
  |some ti=>
   cases hx:ρ x with
   |none=>rw[ht,hx]at hr;obtain⟨d,_,_,_⟩:=ti;cases d<;>simp at hr
   |some v=>
    rw[ht,hx]at hr
    obtain⟨d,sz,by',z⟩:=ti
    cases d<;>simp only[reduceCtorEq]at hr
    case slice e=>
     cases he:look e T with
     |none=>rw[he]at hr;simp at hr
     |some ei=>
      cases hn:lenOf v with
      |none=>rw[he,hn]at hr;simp at hr
      |some n=>
       rw[he,hn]at hr
       simp only at hr
       cases hl:cI ρ 0 lo with
       |none=>rw[hl]at hr;simp at hr
       |some l=>
        cases hh:cI ρ n hi with
        |none=>rw[hl,hh]at hr;simp at hr
        |some hv=>
         rw[hl,hh]at hr
         simp only at hr
         cases hm:cI ρ hv mx with
         |none=>rw[hm]at hr;simp at hr
         |some m=>
          rw[hm]at hr
          simp only at hr
          split at hr
          ·simp at hr
          ·rename_i hmx
           simp only[Bool.and_eq_true,not_and,Bool.not_eq_true]at hmx
           cases hs:rN ei.size v l.toNat hv.toNat with
           |none=>rw[hs]at hr;simp at hr
           |some u=>
            rw[hs]at hr
            simp only[ay]at hr
            subst hr
            have hvt:v.isTuple=false:=by cases v<;>first|rfl|simp[lenOf]at hn
            obtain⟨y,hrun,hR⟩:=aap hT ht rfl he ((hρ x v hx).one hvt) hρ hn hl hh hm need.1 need.2.1 need.2.2.1 need.2.2.2 (fun h1=>by
             have:=hmx h1
             cases hi<;>simp_all) u hs
            refine cN (x:=y) (w':=w) ?_ (dZ h hD hR.bT)
            simp only[execOp,Sem.run_bind,hrun,Result.andThen_ok,Sem.run_pure]
    case array n e=>
     cases mx with
     |some m=>simp at hr
     |none=>
      simp only at hr
      cases he:look e T with
      |none=>rw[he]at hr;simp at hr
      |some ei=>
       cases hl:cI ρ 0 lo with
       |none=>rw[he,hl]at hr;simp at hr
       |some a=>
        cases hh:cI ρ n hi with
        |none=>rw[he,hl,hh]at hr;simp at hr
        |some b=>
         rw[he,hl,hh]at hr
         simp only at hr
         obtain⟨y,hrun,hR⟩:=aen hT h hpre hD ht rfl he (hρ x v hx) hρ hl hh hr need
         refine cN (x:=y) (w':=w) ?_ hR
         simp only[execOp,Sem.run_bind,Option.map_none,hrun,Result.andThen_ok,Sem.run_pure]
 case fieldAddr s x i=>
  cases hs:look s T with
  |none=>rw[hs]at hr;simp at hr
  |some ti=>
   cases hx:ρ x with
   |none=>rw[hs,hx]at hr;simp at hr
   |some p=>
    rw[hs,hx]at hr
    simp only at hr
    cases hf:oA ti.desc i with
    |none=>rw[hf]at hr;simp at hr
    |some fd=>
     rw[hf]at hr
     simp only at hr
     have hp:=hρ x p hx
     cases p<;>simp only[reduceCtorEq]at hr
     case bg v=>
      cases hk:jl T v i fd.offset fd.type with
      |none=>rw[hk]at hr;simp at hr
      |some k=>
       rw[hk]at hr
       simp only[cq,ay]at hr
       subst hr
       obtain⟨b,o,he,hR⟩:=NN hk hp
       obtain⟨fi,hfi,h0⟩:∃fi,look fd.type T=some fi/\fi.size≠0:=by
        obtain⟨_,_,ps,_,hps,_⟩:=hp.bg
        obtain⟨fi,_,_,_,q1,_,_,_,_,_,_,_,q2,_⟩:=BI hk hps
        exact⟨fi,q1,q2⟩
       refine cN (w':=w) ?_ (dZ h hD hR.bT)
       simp only[execOp,Sem.run_bind,he,M7 hT hs hf hfi h0,Result.andThen_ok,Sem.run_pure]
     case ptr k idx es off path=>
      cases hfi:look fd.type T with
      |none=>rw[hfi]at hr;simp at hr
      |some fi=>
       rw[hfi]at hr
       simp only at hr
       split at hr
       ·simp at hr
       ·rename_i h0
        simp only[cq,ay]at hr
        subst hr
        obtain⟨b,N,hb,he⟩:=hp.ptr
        refine cN (x:=.pointer (some ⟨b,idx*es+off+fd.offset,none⟩)) (w':=w) ?_ (dZ h hD (bw.bT (.cD ?_ rfl)))
        ·simp only[execOp,Sem.run_bind,he,M7 hT hs hf hfi (by simpa using h0),Result.andThen_ok,Sem.run_pure]
        ·rw[Nat.add_assoc];exact .ptr hb .nil
 case field s x i=>
  cases hs:look s T with
  |none=>rw[hs]at hr;simp at hr
  |some ti=>
   cases hx:ρ x with
   |none=>rw[hs,hx]at hr;simp at hr
   |some v=>
    rw[hs,hx]at hr
    simp only at hr
    cases hf:oA ti.desc i with
    |none=>rw[hf]at hr;simp at hr
    |some fd=>
     rw[hf]at hr
     simp only at hr
     cases hk:jl T v i fd.offset fd.type with
     |none=>rw[hk]at hr;simp at hr
     |some k=>
      rw[hk]at hr
      simp only[cq,ay]at hr
      subst hr
      have hvt:v.isTuple=false:=by
       cases v<;>first|rfl|(simp[jl,AV.kids]at hk)
      obtain⟨y,hrun,hR⟩:=aer hT (w:=w) hs ((hρ x v hx).one hvt) hf hk
      refine cN (x:=y) (w':=w) ?_ (dZ h hD hR.bT)
      simp only[execOp,Sem.run_bind,hrun,Result.andThen_ok,Sem.run_pure]
 case indexAddr t x ix=>
  cases ht:look t T with
  |none=>rw[ht]at hr;simp at hr
  |some ti=>
   cases hx:ρ x with
   |none=>rw[ht,hx]at hr;obtain⟨d,_,_,_⟩:=ti;cases d<;>simp at hr
   |some p=>
    cases hi:ρ ix with
    |none=>rw[ht,hx,hi]at hr;obtain⟨d,_,_,_⟩:=ti;cases d<;>simp at hr
    |some iv=>
     rw[ht,hx,hi]at hr
     obtain⟨d,sz,by',z⟩:=ti
     have hp:=hρ x p hx
     have hiv:=hρ ix iv hi
     cases d<;>try (simp only[reduceCtorEq]at hr;done)
     case array n e=>
      cases iv<;>simp only[reduceCtorEq]at hr
      case int kd i=>
       have hie:=hiv.int
       cases he:look e T with
       |none=>rw[he]at hr;simp at hr
       |some ei=>
        rw[he]at hr
        simp only at hr
        split at hr
        ·simp at hr
        ·rename_i h0
         cases p<;>simp only[reduceCtorEq]at hr
         case bg v=>
          cases hk:jl T v i.toNat (i.toNat*ei.size) e with
          |none=>rw[hk]at hr;simp at hr
          |some k=>
           rw[hk]at hr
           simp only[ay]at hr
           subst hr
           obtain⟨b,o,hev,hR⟩:=NN hk hp
           refine cN (w':=w) ?_ (dZ h hD hR.bT)
           simp only[execOp,Sem.run_bind,hev,hie,It hT ht rfl he need.1 need.2,Result.andThen_ok,Sem.run_pure]
         case ptr k idx es off path=>
          simp only[ay]at hr
          subst hr
          obtain⟨b,N,hb,hev⟩:=hp.ptr
          refine cN (x:=.pointer (some ⟨b,idx*es+off+i.toNat*ei.size,none⟩)) (w':=w) ?_ (dZ h hD (bw.bT (.cD ?_ rfl)))
          ·simp only[execOp,Sem.run_bind,hev,hie,It hT ht rfl he need.1 need.2,Result.andThen_ok,Sem.run_pure]
          ·rw[Nat.add_assoc];exact .ptr hb .nil
     case slice e=>
      cases iv<;>simp only[reduceCtorEq]at hr
      case int kd i=>
       have hie:=hiv.int
       cases he:look e T with
       |none=>rw[he]at hr;simp at hr
       |some ei=>
        rw[he]at hr
        simp only at hr
        split at hr
        ·simp at hr
        ·rename_i h0
         cases hel:elemAt pre ei.size p i.toNat with
         |none=>rw[hel]at hr;simp at hr
         |some q=>
          obtain⟨q,nd⟩:=q
          rw[hel]at hr
          simp only[ay]at hr
          subst hr
          obtain⟨y,hrun,hR⟩:=afF hT h hpre (kd:=kd) ht rfl he hp need.1 hel need.2
          refine cN (x:=y) (w':=w) ?_ (dZ h hD hR.bT)
          simp only[execOp,Sem.run_bind,hie,hrun,Result.andThen_ok,Sem.run_pure]
 case index t x ix=>
  cases ht:look t T with
  |none=>rw[ht]at hr;simp at hr
  |some ti=>
   cases hx:ρ x with
   |none=>rw[ht,hx]at hr;obtain⟨d,_,_,_⟩:=ti;cases d<;>simp at hr
   |some v=>
    cases hi:ρ ix with
    |none=>rw[ht,hx,hi]at hr;obtain⟨d,_,_,_⟩:=ti;cases d<;>simp at hr
    |some iv=>
     rw[ht,hx,hi]at hr
     obtain⟨d,sz,by',z⟩:=ti
     have hiv:=hρ ix iv hi
     cases d<;>try (simp only[reduceCtorEq]at hr;done)
     case array n e=>
      cases iv<;>simp only[reduceCtorEq]at hr
      case int kd i=>
       have hie:=hiv.int
       cases he:look e T with
       |none=>rw[he]at hr;simp at hr
       |some ei=>
        rw[he]at hr
        simp only at hr
        cases hk:jl T v i.toNat (i.toNat*ei.size) e with
        |none=>rw[hk]at hr;simp at hr
        |some k=>
         rw[hk]at hr
         simp only[ay]at hr
         subst hr
         have hvt:v.isTuple=false:=by
          cases v<;>first|rfl|(simp[jl,AV.kids]at hk)
         obtain⟨y,hrun,hR⟩:=Td hT (w:=w) (kd:=kd) ht rfl he ((hρ x v hx).one hvt) hk need.1 need.2
         refine cN (x:=y) (w':=w) ?_ (dZ h hD hR.bT)
         simp only[execOp,Sem.run_bind,hie,hrun,Result.andThen_ok,Sem.run_pure]
 case extract x i=>
  cases hx:ρ x with
  |none=>rw[hx]at hr;simp at hr
  |some v=>
   rw[hx]at hr
   cases v<;>simp only[reduceCtorEq]at hr
   case tuple l=>
    cases hl:l[i]? with
    |none=>rw[hl]at hr;simp at hr
    |some v=>
     rw[hl]at hr
     simp only[cq,ay]at hr
     subst hr
     obtain⟨vs,hev,hvs⟩:=hρ x _ hx
     obtain⟨y,hy,hR⟩:=hvs.get i v hl
     refine cN (x:=y) (w':=w) ?_ (dZ h hD hR.bT)
     simp[execOp,hev,Instr.extract,hy]
 case makeFunc fn first caps=>
  cases fn<;>simp only[reduceCtorEq]at hr
  case func f=>
   cases hc:fh ρ caps.toList with
   |none=>rw[hc]at hr;cases first.toList<;>simp at hr
   |some l=>
    rw[hc]at hr
    cases hf:first.toList with
    |cons a b=>rw[hf]at hr;simp at hr
    |nil=>
     rw[hf]at hr
     simp only at hr
     split at hr
     ·rename_i hall
      simp only[Bool.and_eq_true]at hall
      obtain⟨hall,hall2⟩:=hall
      simp only[ay]at hr
      subst hr
      have hfe:first=#[]:=by apply Array.ext';simpa using hf
      subst hfe
      have hcaps:=(nY hρ hc).Mn hall
      obtain⟨q1,q2,q3⟩:=OY (pre:=pre) h (fun k o hk=>⟨o,hpre k o hk,.inl rfl⟩) hcaps
      refine cN (x:=.func (.func f) #[] (List.map ev caps.toList).toArray) (w':=w) ?_ ⟨β,q1.mH hD,q2,bw.bT (.cD (.func q3 hall2 .nil) rfl)⟩
      have e1:Array.map ev caps=(List.map ev caps.toList).toArray:=by apply Array.ext';simp
      simp[execOp,Instr.makeFunc,e1]
     ·simp at hr
theorem bK.bp {M:Nat->Prop} {v:AV} {x:Value} (h:bK M w β v x):bK M w β (Am.bp v) x:=by
 cases v with
 |eR b es n f=>
  obtain⟨cs,h1,h2⟩:=bK.one h rfl
  cases h1 with
  |eR g0 g1 g2 g3 g4 g5 g6=>
   cases g6
   exact bw.bT ⟨_,.ak g1 g2 g3 g4 g5 .nil,h2⟩
 |bO n v=>obtain⟨_,_,_,_,h1⟩:=h.bO;exact h1.bT
 |_=>exact h
theorem V5 {ρ:Operand->Option AV} {op:Op} {v:AV} (h:rz T ρ op=some v):∃o t x y u b es n f z,op=.binOp o t x y u/\ρ x=some (.eR b es n f)/\ρ y=some .nil/\isSlice T t=true/\v=.bool z/\((o=.eql/\z=b)\/(o=.neq/\z=!b)):=by
 cases op<;>simp only[rz,reduceCtorEq]at h
 case binOp o t x y u=>
  cases hx:ρ x with
  |none=>rw[hx]at h;simp at h
  |some a=>
   cases hy:ρ y with
   |none=>rw[hx,hy]at h;simp at h
   |some d=>
    rw[hx,hy]at h
    simp only at h
    cases hf:FL a d with
    |none=>rw[hf]at h;simp at h
    |some b=>
     cases hs:isSlice T t with
     |false=>rw[hf,hs]at h;simp at h
     |true=>
      rw[hf,hs]at h
      have hab:∃es n f,a=.eR b es n f/\d=.nil:=by
       cases a<;>simp only[FL,reduceCtorEq]at hf
       case eR b' es n f=>
        cases d<;>simp only[reduceCtorEq,ay]at hf
        case nil=>subst hf;exact⟨es,n,f,rfl,rfl⟩
      obtain⟨es,n,f,rfl,rfl⟩:=hab
      cases o<;>simp only[reduceCtorEq,ay]at h
      case eql=>exact⟨_,t,x,y,u,b,es,n,f,b,rfl,hx,hy,hs,h.symm,.inl ⟨rfl,rfl⟩⟩
      case neq=>exact⟨_,t,x,y,u,b,es,n,f,!b,rfl,hx,hy,hs,h.symm,.inr ⟨rfl,rfl⟩⟩
theorem Oz {f:Nat->AV}:∀{n:Nat} {l:List UInt8},bytesOf f n=some l->∃ns:List Int,ns.length=n/\(∀i,i<n->∃b,ns[i]?=some b/\f i=.int .u8 b)/\(ns.foldl (fun r n=>r.push (UInt8.ofNat n.toNat)) ByteArray.empty)=⟨l.toArray⟩
 |0,l,h=>by
  simp only[bytesOf,ay]at h
  subst h
  exact⟨[],rfl,fun i hi=>aa,rfl⟩
 |n+1,l,h=>by
  simp only[bytesOf]at h
  split at h
  ·rename_i l' b h1 h2
   simp only[ay]at h
   subst h
   obtain⟨ns,e1,e2,e3⟩:=Oz h1
   refine⟨ns++[b],by simp[e1],fun i hi=>?_,?_⟩
   ·by_cases hin:i<n
    ·obtain⟨b',q1,q2⟩:=e2 i hin
     exact⟨b',by rw[List.getElem?_append_left aa];exact q1,q2⟩
    ·have:i=n:=aa
     subst this
     exact⟨b,by rw[List.getElem?_append_right aa,e1];simp,h2⟩
   ·rw[List.foldl_append,e3]
    simp[ByteArray.push]
  ·simp at h
theorem QX {w:World} {M:Nat->Prop} {f:Nat->AV} {n cap:Nat} {l:List UInt8} {base:Option Addr} {cf:Nat->List Value} (hl:bytesOf f n=some l)
  (g1:n=0\/∃b o,base=some ⟨b,o,none⟩/\∀i,i<n->w.rangeAt b (o+i*1) (cf i)) (g3:base=none->n=0) (g4:∀i,i<n->(cf i).length=1/\aN M w bG [f i] (cf i)):
  (Conv.bytesToString (.slice base n cap)).run P w=.ok (.string ⟨l.toArray⟩) w:=by
 obtain⟨ns,e1,e2,e3⟩:=Oz hl
 cases base with
 |none=>
  have:=g3 rfl
  subst this
  simp only[bytesOf,ay]at hl
  subst hl
  rfl
 |some a=>
  rw[run_bytesToString w a n cap ns,e3]
  have hcell:∀j v,(ns.map (Value.int .u8))[j]?=some v->w.cell? (a.add j)=some v:=by
   intro j v hv
   rw[List.getElem?_map,Option.map_eq_some_iff]at hv
   obtain⟨b,hb,rfl⟩:=hv
   have hj:j<n:=by
    have:=(List.getElem?_eq_some_iff.1 hb).1
    omega
   rcases g1 with g1|⟨bl,o,hbo,g1⟩
   ·omega
   simp only[ay]at hbo
   subst hbo
   obtain⟨b',q1,q2⟩:=e2 j hj
   rw[hb]at q1
   simp only[ay]at q1
   subst q1
   obtain⟨q3,q4⟩:=g4 j hj
   rw[q2]at q4
   have hcf:cf j=[.int .u8 b]:=by
    revert q4
    generalize cf j=z
    intro q4
    cases q4 with|int h=>cases h;rfl
   have:=g1 j hj
   rw[hcf]at this
   have:=this 0 _ rfl
   rw[Addr.add_mid]
   simpa using this
  have:=run_loadCells_list (P:=P) (w:=w) a (ns.map (Value.int .u8)) hcell
  rw[List.length_map,e1]at this
  exact this
include hT in
theorem ai2 (h:bF c st D β w) (hpre:∀k o,look k pre=some o->look k st=some o) (hD:∀k,D k->D' k) {ρ:Operand->Option AV} {ev:Operand->Value} (hρ:∀x v,ρ x=some v->bK (aO c st β) w β v (ev x)) {o:Oper} {r:fk}
  (hev:∀v,ev (.const v)=v) (hr:qL T pre ρ o.op=some r) (need:r.need):lX P (execOp ev o) w (fo c st D' β w r.cu r.val):=by
 obtain⟨dst,op,type,pos,after,guard⟩:=o
 cases op<;>simp only[qL,reduceCtorEq]at hr
 case binOp o t x y u=>
  have hbool:∀t,bK (aO c st β) w β (.bool t) (.bool t):=fun t=>bw.bT (.cD (.bool .nil) rfl)
  split at hr
  ·rename_i a b ha hb
   have ea:=(hρ x _ ha).str
   have eb:=(hρ y _ hb).str
   split at hr
   ·split at hr
    ·rename_i hl
     have hl:=Nat.le_of_ble_eq_true hl
     simp only[cq,ay]at hr
     subst hr
     refine cN (x:=.string ⟨(a++b).toArray⟩) (w':=w) ?_ (dZ h hD (bw.bT (.cD (.str .nil) rfl)))
     simp only[execOp,ea,eb,eqGuard_at_string,binOp_string_add]
     simp only[Sem.run_bind,Sem.run_pure,Result.andThen_ok,run_string_add_lists w a b aa aa]
    ·simp at hr
   ·simp only[cq,ay]at hr
    subst hr
    refine cN (x:=.bool (a==b)) (w':=w) ?_ (dZ h hD (hbool _))
    simp only[execOp,ea,eb,eqGuard_at_string,binOp_string_eql,ByteArray.toList_mk]
    simp
   ·simp only[cq,ay]at hr
    subst hr
    refine cN (x:=.bool (!(a==b))) (w':=w) ?_ (dZ h hD (hbool _))
    simp only[execOp,ea,eb,eqGuard_at_string,binOp_string_neq,ByteArray.toList_mk]
    simp
   ·simp at hr
  ·simp at hr
 case convert s d x=>
  split at hr
  ·rename_i e _ _ _ _ _ _ v hs hd hx
   split at hr
   ·rename_i he
    split at hr
    ·rename_i n f hra
     split at hr
     ·rename_i l hl
      simp only[cq,ay]at hr
      subst hr
      obtain⟨base,cap,cf,hev',g1,g2,g3,g4⟩:=pN h hpre aa (hρ x _ hx) hra
      have hus:=(hT _ _ hs).dA
      have hud:=(hT _ _ hd).dA
      have hue:=(hT _ _ he).dA
      refine cN (x:=.string ⟨l.toArray⟩) (w':=w) ?_ (dZ h hD (bw.bT (.cD (.str .nil) rfl)))
      simp only[execOp,hev',Sem.run_bind,run_convert_bytes_string w s d e base n cap hus hue hud]
      rw[QX hl g1 g3 g4]
      rfl
     ·simp at hr
    ·simp at hr
   ·simp at hr
  ·simp at hr
 case index t x ix=>
  cases x<;>(try simp only[reduceCtorEq]at hr)
  case const v=>
   cases v<;>(try simp only[reduceCtorEq]at hr)
   case string s=>
    cases hi:ρ ix with
    |none=>rw[hi]at hr;simp at hr
    |some iv=>
     cases ht:look t T with
     |none=>rw[hi,ht]at hr;cases iv<;>simp at hr
     |some ti=>
      rw[hi,ht]at hr
      have hiv:=hρ ix iv hi
      cases iv<;>simp only[reduceCtorEq]at hr
      case int kd i=>
       have hie:=hiv.int
       split at hr
       ·rename_i hs
        simp only[ay]at hr
        subst hr
        have need:0<=i/\i<s.size:=need
        have hu:P.underlying t=some .string:=by
         have:=(hT _ _ ht).dA
         cases hd:ti.desc<;>rw[hd]at hs this<;>simp only[isString,Bool.false_eq_true]at hs
         case string=>exact this
        have hb:(nC s i.toNat:Int)=((s[i.toNat]'aa).toNat:Int):=by
         unfold nC
         have hlt:i.toNat<s.data.size:=by have:s.size=s.data.size:=rfl;omega
         rw[Array.getElem?_eq_getElem hlt]
         rfl
        refine cN (x:=.int .u8 (nC s i.toNat)) (w':=w) ?_ (dZ h hD (bw.bT (.cD (.int .nil) rfl)))
        simp only[execOp,hie,hev]
        rw[Sem.run_bind,run_index_string w t s kd i hu,dif_pos need,hb]
        rfl
       ·simp at hr
theorem aav {K:Nat} {ρ:Operand->Option AV} {op:Op} {r:fk} (hc:uI T ρ pre op=true) (hr:fH T Γ K ρ pre op=some r):r.need:=by
 cases op<;>simp only[uI,Bool.false_eq_true]at hc
 case load t a=>
  split at hc
  ·rename_i k idx es off path ha
   split at hc
   ·rename_i o ho
    have hlt:=Nat.blt_eq.mp hc
    simp only[fH,ha]at hr
    split at hr
    ·rename_i ti p ht hp
     simp only[ay]at hp
     subst hp
     simp only[qN,ho]at hr
     split at hr
     ·split at hr
      ·split at hr
       ·simp only[ay]at hr;subst hr;exact hlt
       ·simp at hr
      ·simp at hr
     ·simp at hr
    ·simp at hr
   ·simp at hc
  ·simp at hc
 case store t a x=>
  split at hc
  ·rename_i k idx es off path ha
   split at hc
   ·rename_i o ho
    have hlt:=Nat.blt_eq.mp hc
    simp only[fH,ha]at hr
    split at hr
    ·rename_i ti p v ht hp hv
     simp only[ay]at hp
     subst hp
     simp only[zo,ho]at hr
     (repeat' split at hr)<;>first|(simp only[ay]at hr;subst hr;exact hlt)|simp at hr
    ·simp at hr
   ·simp at hc
  ·simp at hc
 case indexAddr t x ix=>
  split at hc
  ·rename_i n e _ _ _ _ i ht hi
   have hlt:=of_decide_eq_true hc
   cases hx:ρ x with
   |none=>simp only[fH,ht,hi,hx]at hr;simp at hr
   |some p=>
    simp only[fH,ht,hi,hx]at hr
    split at hr
    ·split at hr
     ·simp at hr
     ·split at hr
      ·split at hr
       ·simp only[ay]at hr;subst hr;exact hlt
       ·simp at hr
      ·simp only[ay]at hr;subst hr;exact hlt
      ·simp at hr
    ·simp at hr
  ·rename_i e _ _ _ v _ i ht hv hi
   split at hc
   ·rename_i n hn
    simp only[Bool.and_eq_true,bk,Nat.blt_eq]at hc
    simp only[fH,ht,hi,hv]at hr
    split at hr
    ·rename_i ti hti
     split at hr
     ·simp at hr
     ·split at hr
      ·rename_i r' nd hel
       simp only[ay]at hr
       subst hr
       refine⟨hc.1,?_⟩
       unfold elemAt at hel
       unfold lenOf at hn
       have hc2:=hc.2
       (repeat' split at hel)<;>simp_all<;>(obtain⟨_,rfl⟩:=hel;exact hc2)
      ·simp at hr
    ·simp at hr
   ·simp at hc
  ·simp at hc
 case index t x ix=>
  split at hc
  ·rename_i n e _ _ _ _ i ht hi
   have hlt:=of_decide_eq_true hc
   cases hx:ρ x with
   |none=>simp only[fH,ht,hi,hx]at hr;simp at hr
   |some p=>
    simp only[fH,ht,hi,hx]at hr
    split at hr
    ·split at hr
     ·simp only[ay]at hr;subst hr;exact hlt
     ·simp at hr
    ·simp at hr
  ·simp at hc
 case slice t x lo hi mx=>
  split at hc
  ·rename_i v hv
   split at hc
   ·rename_i len hlen
    split at hc
    ·rename_i l h hl hh
     split at hc
     ·rename_i m hm
      have hlt:=of_decide_eq_true hc
      cases ht:look t T with
      |none=>simp only[fH,hv,ht]at hr;simp at hr
      |some ti0=>
       obtain⟨dd,_,_,_⟩:=ti0
       cases dd<;>try (simp only[fH,hv,ht]at hr;simp at hr;done)
       case array n e=>
        simp only[fH,hv,ht]at hr
        exfalso
        split at hr
        ·split at hr
         ·unfold CS at hr
          cases v<;>simp[lenOf]at hlen<;>simp at hr
         ·simp at hr
        ·simp at hr
       case slice e=>
        cases he:look e T with
        |none=>simp only[fH,hv,ht,he]at hr;simp at hr
        |some ti=>
         simp only[fH,hv,ht,he,hlen,hl,hh,hm]at hr
         split at hr
         ·simp at hr
         ·split at hr
          ·simp only[ay]at hr;subst hr;exact hlt
          ·simp at hr
     ·simp at hc
    ·simp at hc
   ·simp at hc
  ·simp at hc
 case buildSlice t n ps=>
  split at hc
  ·rename_i e _ _ _ ht
   split at hc
   ·rename_i ti hti
    have hlt:=Nat.le_of_ble_eq_true hc
    cases hp:kj ρ ps.toList with
    |none=>simp only[fH,ht,hti,hp]at hr;simp at hr
    |some l=>
     simp only[fH,ht,hti,hp]at hr
     split at hr
     ·simp at hr
     ·split at hr
      ·split at hr
       ·simp only[ay]at hr;subst hr;exact hlt
       ·simp at hr
      ·simp at hr
   ·simp at hc
  ·simp at hc
theorem G4 {k:IntKind} (h:Cj k=true):k=.i64:=by cases k<;>first|rfl|cases h
theorem wrap64 {n:Int} (h:-2^63<=n/\n<2^63):IntKind.i64.wrap n=n:=by
 obtain⟨h1,h2⟩:=h
 simp[IntKind.wrap,IntKind.bits,IntKind.signed];omega
theorem aje {K:Nat} {ρ:Operand->Option AV} {op:Op} {n:Int} (hp:uX T ρ op=some n) (hn:-2^63<=n/\n<2^63):fH T Γ K ρ pre op=some ⟨.int .i64 n,[],[]⟩:=by
 cases op<;>simp only[uX,reduceCtorEq]at hp
 case binOp o t x y u=>
  split at hp
  ·rename_i k a j b hx hy
   split at hp
   ·rename_i hk hj
    obtain rfl:=G4 hk
    obtain rfl:=G4 hj
    simp only[fH,hx,hy]
    split at hp<;>simp only[ay,reduceCtorEq]at hp<;>subst hp<;>simp[qV,isKind,Fm,cq,wrap64 hn]
   ·simp at hp
  ·simp at hp
 case convert s d x=>
  split at hp
  ·rename_i k1 _ _ _ k _ _ _ k2 m hs hd hx
   split at hp
   ·rename_i hk
    obtain rfl:=G4 hk
    simp only[ay]at hp
    subst hp
    simp only[fH,hs,hd,hx,cq,wrap64 hn]
   ·simp at hp
  ·simp at hp
include hT hΓ in
theorem YU (h:bF c st D β w) (hpre:∀k o,look k pre=some o->look k st=some o) (hD:∀k,D k->D' k) {K:Nat} (hK:∀k,K<=k->k<K+cT->¬D k/\D' k)
  {ρ:Operand->Option AV} {ev:Operand->Value} (hρ:∀x v,ρ x=some v->bK (aO c st β) w β v (ev x)) {o:Oper} {r:fk}
  (hr:rm T Γ K ρ pre o.op=some r) (need:r.need):lX P (execOp ev o) w (fo c st D' β w r.cu r.val):=by
 unfold rm at hr
 split at hr
 ·split at hr
  ·rename_i hc
   split at hr
   ·rename_i r' hr'
    simp only[ay]at hr
    subst hr
    have:=vE hT hΓ h hpre hD hK hρ (r:=r') hr' (aav hc hr')
    exact this
   ·simp at hr
  ·exact vE hT hΓ h hpre hD hK hρ hr need
 ·split at hr
  ·split at hr
   ·rename_i n hp
    simp only[ay]at hr
    subst hr
    have hn:-2^63<=n/\n<2^63:=need
    have:=vE hT hΓ h hpre hD hK hρ (r:=⟨.int .i64 n,[],[]⟩) (aje hp hn) trivial
    exact this
   ·exact vE hT hΓ h hpre hD hK hρ hr need
  ·exact vE hT hΓ h hpre hD hK hρ hr need
theorem ace {p:Prop} {l:List Prop}:az (p::l)↔p/\az l:=by
 cases l<;>simp[az]
theorem ad7 {M:Nat->Prop} {ρ:Operand->Option AV} {ev:Operand->Value} (hρ:∀x v,ρ x=some v->bK M w β v (ev x)) {lo hi:Option Operand} {l h:Int} {n cap:Nat}
  (hl:cI ρ 0 lo=some l) (hh:cI ρ n hi=some h) (h0:0<=l) (h1:l<=h) (h3:h<=n) (h4:n<=cap):
  (Instr.sliceBounds true n cap (lo.map ev) (hi.map ev) none).run P w=.ok (l.toNat,h.toNat,cap) w:=by
 rcases ji hρ hh with⟨rfl,rfl⟩|⟨kh,oh,rfl,hoh⟩
 ·rcases ji hρ hl with⟨rfl,rfl⟩|⟨kl,ol,rfl,hol⟩
  ·simp[Instr.sliceBounds]
  ·simp[Instr.sliceBounds,hol,jg kl l n .sliceB h0 h1]
 ·have b2:=jg (P:=P) (w:=w) kh h cap .sliceAcap aa aa
  rcases ji hρ hl with⟨rfl,rfl⟩|⟨kl,ol,rfl,hol⟩
  ·simp[Instr.sliceBounds,hoh,b2]
  ·simp[Instr.sliceBounds,hol,hoh,b2,jg kl l h.toNat .sliceB h0 aa]
theorem US (t tx ty e:TypeId) (i:TypeInfo) (z:Value) (ht:P.underlying t=some (.slice e)) (hk:P.underlying tx=some (.int .i64)) (hi:P.info? e=some i) (hz:i.zero=some z) (base:Option Addr) (sLen sCap:Nat) (olds:List Value)
  (hold:(Builtin.firstCells i.size sLen (.slice base sLen sCap)).run P w.drew=.ok olds.toArray w.drew) (n:Nat) (h0:0<n) (hs:0<i.size) (hg:sCap<sLen+n)
  (h63:((sLen+n:Nat):Int)<9223372036854775808) (hb:n*i.bytes<=281474976710656) (hfit:Builtin.nextslicecap (sLen+n) sCap*i.bytes<=281474976710656):
  (Builtin.append_ #[t,tx] ty #[.slice base sLen sCap,.int .i64 n]).run P w=
   .ok (.slice (some ⟨w.heap.size,0,none⟩) (sLen+n) (grownCap w (sLen+n) sCap e))
    (w.drew.alloc (.cells (olds.toArray++Builtin.zeroCells z.cells n++Builtin.zeroCells z.cells (grownCap w (sLen+n) sCap e-(sLen+n))) e)):=by
 have hw:IntKind.i64.wrap (n:Int)=n:=by rw[IntKind.wrap_i64];omega
 have hn:¬n=0:=aa
 have hns:¬n*i.size=0:=by
  intro h;rcases Nat.mul_eq_zero.1 h with h|h<;>omega
 have hnc:¬(sLen+n<=sCap):=aa
 have h63':¬(9223372036854775807<((sLen:Int)+(n:Int))):=aa
 have hb':¬(281474976710656<(n:Int)*(i.bytes:Int)):=by
  rw[<-Int.natCast_mul]
  omega
 have h48':¬(281474976710656<Builtin.nextslicecap (sLen+n) sCap*i.bytes):=aa
 have hneg:¬((n:Int)<0):=aa
 set_option maxRecDepth 100000 in
 simp[Builtin.append_,run_underlying ht,run_underlying hk,sizeOf,typeInfo,zeroValue,hi,hz,asInt,asIntOf,hw,hn,hnc,hneg,h63',hb',h48',hns,Question.forced,hold,newRow,grownCap]
include hT in
theorem ai3 (h:bF c st D β w) (hD:∀k,D k->D' k) {K:Nat} (hK:¬D K) (hDK:D' K) {t t' ty:TypeId} {ti ti' ei:TI}
  (ht:look t T=some ti) (ht':look t' T=some ti') {e:TypeId} (hd:ti.desc=.slice e) (hd':ti'.desc=.int .i64) (he:look e T=some ei) (h1:ei.size≠0) (h2:ei.zero.size=ei.size)
  (h3:ei.zero.isTuple=false) {n cap:Nat} {f:Nat->AV} {x:Value} (hx:bK (aO c st β) w β (.bO cap (.ak ei.size n f)) x) {m:Nat} (n0:0<m) (hcap:cap<n+m) (n1:(n+m)*(ei.bytes+1)*2<=2^47):
  ∃z w',(Builtin.append_ #[t,t'] ty #[x,.int .i64 m]).run P w=.ok z w'/\fo c st D' β w [(K,some ⟨true,true,ei.size,n+m,fun i=>if i<n then f i else ei.zero⟩)] (.own K ei.size 0 (n+m)) z w':=by
 obtain⟨i,zz,hi,hz,hrep⟩:=(hT e ei he).zero h3
 obtain⟨i',hi',his,hib⟩:=(hT e ei he).info
 rw[hi]at hi'
 simp only[ay]at hi'
 subst hi'
 have hzl:zz.cells.size=ei.size:=by rw[<-Array.length_toList,(hrep (aO c st β) w β).cells.length];simp[sizes,h2]
 obtain⟨base0,m0,rfl,_,hx1⟩:=hx.bO
 obtain⟨base,cap0,cf,hsl,g1,g2,g3,g4,g5⟩:=hx1.bT.ak
 cases hsl
 have hmb:(n+m)*ei.bytes<=2^47:=Nat.le_trans (by rw[Nat.mul_assoc];exact Nat.mul_le_mul_left _ aa) n1
 have hmb2:m*ei.bytes<=(n+m)*ei.bytes:=Nat.mul_le_mul_right _ aa
 have hm2:(n+m)*2<=2^47:=Nat.le_trans (by rw[Nat.mul_assoc];exact Nat.mul_le_mul_left _ aa) n1
 have hfold:(Builtin.firstCells i.size n (.slice base0 n cap)).run P w.drew=.ok (flat cf n).toArray w.drew:=by
  refine r9 (w:=w.drew) aa (fun i hi=>by rw[g4 i hi,his]) ?_ n
  rcases g1 with g1|⟨b,o,rfl,g1⟩
  ·exact .inl g1
  ·refine .inr ⟨b,o,rfl,fun i hi j v hv=>?_⟩
   rw[World.cell?_drew,his]
   exact(g1 i hi).range j v hv
 have hrun:=US (P:=P) (w:=w) t t' ty e i zz (hd▸(hT t ti ht).dA) (hd'▸(hT t' ti' ht').dA) hi hz base0 n cap (flat cf n) hfold m n0 aa hcap aa (by rw[hib];omega) (growslice_fits aa (by rw[hib];omega))
 have hcap2:n+m<=grownCap w (n+m) cap e:=by simp[grownCap,Question.cut]
 generalize grownCap w (n+m) cap e=C at hrun hcap2
 refine⟨_,_,hrun,β.set K (w.heap.size,C,n+m),?_⟩
 have e1:cV (aO c st β) w β (aO c st β) w.drew β:=cV.drew
 have ez:(flat cf n).toArray++Builtin.zeroCells zz.cells m=(flat (fun i=>if i<n then cf i else zz.cells.toList) (n+m)).toArray:=by
  apply Array.ext'
  rw[Array.toList_append,Ga]
  exact FH cf (fun _=>zz.cells.toList) n m
 rw[ez]
 obtain⟨q1,q2⟩:=h.drew.vU (D':=D') (es:=ei.size) (f:=fun i=>if i<n then f i else ei.zero) (cf:=fun i=>if i<n then cf i else zz.cells.toList) hK hD hDK aa hcap2 (fun i hi=>by
  by_cases h':i<n
  ·simp only[if_pos h'];exact⟨g4 i h',(g5 i h').pz e1⟩
  ·simp only[if_neg h'];exact⟨by rw[Array.length_toList,hzl],(hrep _ _ _).cells⟩) (Z:=Builtin.zeroCells zz.cells (C-(n+m))) (by rw[v7,hzl]) (ty:=e)
 refine⟨q1,e1.trans q2,bw.bT (.cD ?_ rfl)⟩
 exact aN.own (N:=(C,n+m)) (aY.gr _ _ _) ⟨by simp,by simp⟩ hcap2 (.inr (by simp)) aa .nil
theorem uC {M:Nat->Prop} {ρ:Operand->Option AV} {ev:Operand->Value} (hρ:∀x v,ρ x=some v->bK M w β v (ev x)):∀x v,eP ρ x=some v->bK M w β v (ev x):=fun x v hx=>by
 unfold eP at hx
 cases hx':ρ x with
 |none=>rw[hx']at hx;simp at hx
 |some u=>
  rw[hx']at hx
  simp only[ay]at hx
  subst hx
  exact(hρ x u hx').bp
include hT in
theorem adq (h:bF c st D β w) (hpre:∀k o,look k pre=some o->look k st=some o) (hD:∀k,D k->D' k) {K:Nat} (hK:¬D K) (hDK:D' K) {t t' ty:TypeId} {ti ti' ei:TI}
  (ht:look t T=some ti) (ht':look t' T=some ti') {e e':TypeId} (hd:ti.desc=.slice e) (hd':ti'.desc=.slice e') (he:look e T=some ei) (h1:ei.size≠0) (h2:ei.zero.size=ei.size)
  (h3:ei.zero.isTuple=false) {n cap:Nat} {f:Nat->AV} {x:Value} (hx:bK (aO c st β) w β (.bO cap (.ak ei.size n f)) x) {y:AV} {xv:Value} (hy:bK (aO c st β) w β y xv) {m:Nat} {g:Nat->AV} (hr:readAll pre ei.size y=some (m,g))
  (hcap:cap<n+m) (n1:(n+m)*(ei.bytes+1)*2<=2^47):
  ∃z w',(Builtin.append_ #[t,t'] ty #[x,xv]).run P w=.ok z w'/\fo c st D' β w [(K,some ⟨true,true,ei.size,n+m,fun i=>if i<n then f i else g (i-n)⟩)] (.own K ei.size 0 (n+m)) z w':=by
 obtain⟨i,zz,hi,hz,hrep⟩:=(hT e ei he).zero h3
 obtain⟨i',hi',his,hib⟩:=(hT e ei he).info
 rw[hi]at hi'
 simp only[ay]at hi'
 subst hi'
 have hzl:zz.cells.size=ei.size:=by rw[<-Array.length_toList,(hrep (aO c st β) w β).cells.length];simp[sizes,h2]
 obtain⟨base0,m0,rfl,_,hx1⟩:=hx.bO
 obtain⟨base,cap0,cf,hsl,g1,g2,g3,g4,g5⟩:=hx1.bT.ak
 cases hsl
 obtain⟨ybase,ycap,yf,rfl,y1,y2,y3,y4⟩:=pN h hpre aa hy hr
 have hsrc:=yE hT ht' hd' (cap:=ycap) aa y1 y4
 rw[<-his]at hsrc
 have hmb:(n+m)*ei.bytes<=2^47:=Nat.le_trans (by rw[Nat.mul_assoc];exact Nat.mul_le_mul_left _ aa) n1
 have hm2:(n+m)*2<=2^47:=Nat.le_trans (by rw[Nat.mul_assoc];exact Nat.mul_le_mul_left _ aa) n1
 have hfold:(Builtin.firstCells i.size n (.slice base0 n cap)).run P w.drew=.ok (flat cf n).toArray w.drew:=by
  refine r9 (w:=w.drew) aa (fun i hi=>by rw[g4 i hi,his]) ?_ n
  rcases g1 with g1|⟨b,o,rfl,g1⟩
  ·exact .inl g1
  ·refine .inr ⟨b,o,rfl,fun i hi j v hv=>?_⟩
   rw[World.cell?_drew,his]
   exact(g1 i hi).range j v hv
 have hrun:=run_append_grow_src (P:=P) w t t' ty e i zz (hd▸(hT t ti ht).dA) hi hz base0 n cap (flat cf n) hfold (.slice ybase m ycap) m (flat yf m) hsrc hcap aa (growslice_fits aa (by rw[hib];omega))
 rw[FH]at hrun
 have hcap2:n+m<=grownCap w (n+m) cap e:=by simp[grownCap,Question.cut]
 generalize grownCap w (n+m) cap e=C at hrun hcap2
 refine⟨_,_,hrun,β.set K (w.heap.size,C,n+m),?_⟩
 have e1:cV (aO c st β) w β (aO c st β) w.drew β:=cV.drew
 obtain⟨q1,q2⟩:=h.drew.vU (D':=D') (es:=ei.size) (f:=fun i=>if i<n then f i else g (i-n)) (cf:=fun i=>if i<n then cf i else yf (i-n)) hK hD hDK aa hcap2 (fun i hi=>by
  by_cases h':i<n
  ·simp only[if_pos h'];exact⟨g4 i h',(g5 i h').pz e1⟩
  ·simp only[if_neg h'];exact⟨(y4 (i-n) aa).1,(y4 (i-n) aa).2.pz e1⟩) (Z:=Builtin.zeroCells zz.cells (C-(n+m))) (by rw[v7,hzl]) (ty:=e)
 refine⟨q1,e1.trans q2,bw.bT (.cD ?_ rfl)⟩
 exact aN.own (N:=(C,n+m)) (aY.gr _ _ _) ⟨by simp,by simp⟩ hcap2 (.inr (by simp)) aa .nil
include hT in
theorem Yn (h:bF c st D β w) (hpre:∀k o,look k pre=some o->look k st=some o) (hD:∀k,D k->D' k) {K:Nat} (hK0:¬D K/\D' K)
  {ρ:Operand->Option AV} {ev:Operand->Value} (hρ:∀x v,ρ x=some v->bK (aO c st β) w β v (ev x)) {a b:Operand} {argTypes:Array TypeId} {ty:TypeId} {cap k es n:Nat} (hca:ρ a=some (.bO cap (.own k es 0 n)))
  {args:Array Operand} (hargs:args.toList=[a,b]) {K' e' nm:Nat} {cu:List (Nat×Option au)} {iV:List Prop} (hr:kz T Γ K (eP ρ) pre ⟨.builtin .append,args,argTypes⟩=some ⟨.own K' e' 0 nm,cu,iV⟩) (need:az iV) (hle:nm<=cap):
  ∃z w',(Builtin.append_ argTypes ty #[ev a,ev b]).run P w=.ok z w'/\fo c st D' β w cu (.bO cap (.own K' e' 0 nm)) z w':=by
 have hra:eP ρ a=some (.own k es 0 n):=by simp[eP,hca,bp]
 simp only[kz,hargs]at hr
 cases ht:argTypes[0]? with
 |none=>rw[ht]at hr;simp at hr
 |some t=>
  cases ht2:argTypes[1]? with
  |none=>rw[ht,ht2]at hr;simp at hr
  |some t'=>
   rw[ht,ht2]at hr
   cases hb:eP ρ b with
   |none=>
    have hop:fh (eP ρ) [a,b]=none:=by simp[fh,hra,hb]
    rw[hop]at hr
    simp at hr
   |some y=>
    by_cases hyt:y.isTuple=true
    ·have hop:fh (eP ρ) [a,b]=none:=by simp[fh,hra,hb,hyt]
     rw[hop]at hr
     simp at hr
    ·have hop:fh (eP ρ) [a,b]=some [own k es 0 n,y]:=by
      simp only[fh,hra,hb,hyt,Bool.false_eq_true,if_false]
      rfl
     rw[hop]at hr
     simp only at hr
     have hat:(Builtin.append_ argTypes ty #[ev a,ev b]).run P w=(Builtin.append_ #[t,t'] ty #[ev a,ev b]).run P w:=by
      simp only[Builtin.append_,ht,ht2]
      rfl
     rw[hat]
     cases htl:look t T with
     |none=>rw[htl]at hr;simp at hr
     |some ti=>
      cases htl2:look t' T with
      |none=>rw[htl,htl2]at hr;obtain⟨d,_,_,_⟩:=ti;cases d<;>simp at hr
      |some ti'=>
       rw[htl,htl2]at hr
       obtain⟨d,sz,by',z⟩:=ti
       obtain⟨d',sz',by'',z'⟩:=ti'
       cases d<;>cases d'<;>simp only[reduceCtorEq]at hr
       case slice.slice e e''=>
        cases he:look e T with
        |none=>rw[he]at hr;simp at hr
        |some ei=>
         rw[he]at hr
         simp only at hr
         cases hrd:readAll pre ei.size y with
         |none=>rw[hrd]at hr;simp at hr
         |some mg=>
          obtain⟨m,g⟩:=mg
          rw[hrd]at hr
          simp only at hr
          cases hk:look k pre with
          |none=>rw[hk]at hr;simp at hr
          |some ob=>
           rw[hk]at hr
           simp only at hr
           split at hr
           ·rename_i hc
            simp only[Bool.and_eq_true,beq_iff_eq,bne_iff_ne,ne_eq,Bool.not_eq_true']at hc
            obtain⟨⟨⟨⟨⟨⟨⟨c1,c2⟩,c3⟩,c4⟩,c5⟩,c6⟩,c7⟩,c8⟩:=hc
            simp only[ay,fk.mk.injEq,own.injEq]at hr
            obtain⟨⟨rfl,rfl,_,rfl⟩,rfl,rfl⟩:=hr
            subst c4
            obtain⟨base,m1,hev,_,hx1⟩:=(hρ a _ hca).bO
            have hm1:m1=n:=by
             rcases hx1.bT.own with⟨b1,o1,cp,N,g1,_⟩|⟨g1,g2,g3,_⟩
             ·rw[hev]at g1;cases g1;rfl
             ·rw[hev]at g1;cases g1;exact g3.symm
            subst hm1
            obtain⟨zv,w',hrun,⟨β',q1,q2,q3⟩,hcp⟩:=KP hT (ty:=ty) h hpre hD hK0.1 hK0.2 htl htl2 rfl rfl he c5 c6 c7 (uC hρ b y hb) hrd hx1.bT (hpre k ob hk) c1 c2 c3 need
            obtain⟨base',rfl⟩:=hcp base cap hev hle
            exact⟨_,w',hrun,β',q1,q2,bw.bT (.cD (.bO rfl (q3.cell rfl) .nil) rfl)⟩
           ·simp at hr
theorem MT {M:Nat->Prop} {ρ:Operand->Option AV} {ev:Operand->Value} (hρ:∀x v,ρ x=some v->bK M w β v (ev x)) {lo hi:Option Operand} {l h:Int} {n cap:Nat}
  (hl:cI ρ 0 lo=some l) (hh:cI ρ n hi=some h) (h0:0<=l) (h1:l<=h) (h3:h<=cap) (h4:n<=cap):
  (Instr.sliceBounds true n cap (lo.map ev) (hi.map ev) none).run P w=.ok (l.toNat,h.toNat,cap) w:=by
 rcases ji hρ hh with⟨rfl,rfl⟩|⟨kh,oh,rfl,hoh⟩
 ·rcases ji hρ hl with⟨rfl,rfl⟩|⟨kl,ol,rfl,hol⟩
  ·simp[Instr.sliceBounds]
  ·simp[Instr.sliceBounds,hol,jg kl l n .sliceB h0 h1]
 ·have b2:=jg (P:=P) (w:=w) kh h cap .sliceAcap aa aa
  rcases ji hρ hl with⟨rfl,rfl⟩|⟨kl,ol,rfl,hol⟩
  ·simp[Instr.sliceBounds,hoh,b2]
  ·simp[Instr.sliceBounds,hol,hoh,b2,jg kl l h.toNat .sliceB h0 aa]
include hT in
theorem ac6 (h:bF c st D β w) (hD:∀k,D k->D' k) {t t' ty:TypeId} {ti ti' ei:TI}
  (ht:look t T=some ti) (ht':look t' T=some ti') {e e':TypeId} (hd:ti.desc=.slice e) (hd':ti'.desc=.slice e') (he:look e T=some ei) (h1:ei.size≠0) (h3:ei.zero.isTuple=false)
  {k n s m cap:Nat} {o:au} {x y:Value} (hs:bK (aO c st β) w β (.own k ei.size 0 n) x) (hc:∃base,x=.slice base n cap) (hy:bK (aO c st β) w β (.own k ei.size s m) y)
  (hk:look k st=some o) (hrow:o.row=true) (hwr:o.wr=true) (hes:o.es=ei.size) (n1:n+m<=cap) (n2:n+m<=o.len):
  ∃z w',(Builtin.append_ #[t,t'] ty #[x,y]).run P w=.ok z w'/\
   fo c st D' β w [(k,some {o with f:=fun i=>if n<=i/\i<n+m then o.f (i-n+s)else o.f i})] (.bO cap (.own k ei.size 0 (n+m))) z w':=by
 obtain⟨i,zz,hi,hz,hrep⟩:=(hT e ei he).zero h3
 obtain⟨i',hi',his,hib⟩:=(hT e ei he).info
 rw[hi]at hi'
 simp only[ay]at hi'
 subst hi'
 obtain⟨base,ycap,cf,rfl,g1,g2,g3,g4⟩:=pN (pre:=st) h (fun _ _ h=>h) (es:=ei.size) aa hy (show readAll st ei.size (.own k ei.size s m)=some (m,fun i=>o.f (i+s)) by simp[readAll,hk,hrow,hes])
 have hsrc:=yE hT ht' hd' (cap:=ycap) aa g1 g4
 have hu:=hd▸(hT t ti ht).dA
 have hm0run:m=0->∀{B:Option Addr} {C:Nat},n<=C->(Builtin.append_ #[t,t'] ty #[.slice B n C,.slice base m ycap]).run P w=.ok (.slice B (n+m) C) w:=fun hm0 {B C} hn=>by
  subst hm0
  have hcells:=hsrc.cells
  have hf:(flat cf 0).toArray=#[]:=by simp[flat]
  rw[hf]at hcells
  cases B with
  |none=>simp[Builtin.append_,run_underlying hu,run_underlying (hd'▸(hT t' ti' ht').dA),sizeOf,typeInfo,hi,Builtin.lenOf,his,hcells,hn,storeCells]
  |some b=>simp[Builtin.append_,run_underlying hu,run_underlying (hd'▸(hT t' ti' ht').dA),sizeOf,typeInfo,hi,Builtin.lenOf,his,hcells,hn,storeCells]
 have hsame:m=0->(fun i=>if n<=i/\i<n+m then o.f (i-n+s)else o.f i)=o.f:=fun hm0=>funext fun i=>if_neg aa
 obtain⟨bx,hbx⟩:=hc
 rcases hs.own with hs|⟨rfl,_,rfl,k6⟩
 rotate_left
 ·cases hbx
  have hm0:m=0:=aa
  obtain⟨q1,q2⟩:=h.EB (o':={o with f:=fun i=>if 0<=i/\i<0+m then o.f (i-0+s)else o.f i}) hk (by rw[hsame hm0])
  refine⟨_,_,hm0run hm0 (Nat.zero_le _),β,q1.mH hD,q2,bw.bT (.cD (.bO rfl ?_ .nil) rfl)⟩
  subst hm0
  exact .own0 k6 .nil
 obtain⟨b,off,scap,N,rfl,k1,k2,k3,k4,k5,k6⟩:=hs
 cases hbx
 obtain⟨cs,cty,cfo,e1,e2,e3,e4,e5,e6⟩:=h.elems hk hrow k1
 have hold:∀i,i<o.len->(cfo i).length=ei.size/\aN (aO c st β) w bG [o.f i] (cfo i)/\∀j v,(cfo i)[j]?=some v->cs[i*ei.size+j]?=some v:=fun i hi=>by
  have:=e6 i hi
  rwa [hes]at this
 have hfl:=mK (cf:=cf) (m:=m) (es:=ei.size) fun i hi=>(g4 i hi).1
 have hfit:n*ei.size+m*ei.size<=cs.size:=by
  rw[e2,hes,<-Nat.add_mul];exact Nat.mul_le_mul_right _ aa
 have hrun:(Builtin.append_ #[t,t'] ty #[.slice (some ⟨b,off,none⟩) n cap,.slice base m ycap]).run P w=.ok (.slice (some ⟨b,off,none⟩) (n+m) cap) (w.setRow b (splice cs (n*ei.size) (flat cf m))):=by
  by_cases hm0:m=0
  ·rw[hm0run hm0 k4]
   subst hm0
   rw[show splice cs (n*ei.size) (flat cf 0)=cs by simp[flat,splice],setRow_self w b cs cty _ e1]
  ·have hoff:off=0:=by rcases k5 with k5|k5<;>omega
   subst hoff
   have hst:=run_storeCells_at P b (n*ei.size) cty (flat cf m) 0 cs w e1 (by rw[hfl];simpa using hfit) (yV fun i hi=>(g4 i hi).2)
   simp only[Nat.add_zero]at hst
   have hcells:=hsrc.cells
   simp[Builtin.append_,run_underlying hu,run_underlying (hd'▸(hT t' ti' ht').dA),sizeOf,typeInfo,hi,Builtin.lenOf,his,hcells,n1,Addr.add_lit,hst,splice]
 have hq:=h.write (o':={o with f:=fun i=>if n<=i/\i<n+m then o.f (i-n+s)else o.f i}) hk hwr k1 e1 (zw (by rw[hfl];exact hfit)) rfl hwr rfl (fun i hi=>?_)
 ·refine⟨_,_,hrun,β,hq.1.mH hD,hq.2,bw.bT (.cD (.bO rfl ?_ .nil) rfl)⟩
  exact .own k1 ⟨k2,aa⟩ n1 k5 k6 .nil
 ·have hi':i<o.len:=hi
  obtain⟨f1,f2,f3⟩:=hold i hi'
  by_cases hin:n<=i/\i<n+m
  ·obtain⟨a1,a2⟩:=g4 (i-n) aa
   refine⟨cf (i-n),?_,?_,fun j v hv=>?_⟩
   ·rw[a1];exact hes.symm
   ·simp only[hrow,if_true,if_pos hin]
    exact a2
   ·have hj:j<ei.size:=by rw[<-a1];exact(List.getElem?_eq_some_iff.1 hv).1
    have h5:i*ei.size=n*ei.size+(i-n)*ei.size:=by rw[<-Nat.add_mul];congr 1;omega
    have h6:=Nat.mul_le_mul_right ei.size (show(i-n)+1<=m by omega)
    rw[Nat.add_mul,Nat.one_mul]at h6
    simp only[hes]
    rw[mV (by rw[hfl];exact hfit),hfl,if_pos aa]
    have h7:i*ei.size+j-n*ei.size=(i-n)*ei.size+j:=aa
    rw[h7,pD (fun i hi=>(g4 i hi).1) aa hj]
    exact hv
  ·refine⟨cfo i,?_,?_,fun j v hv=>?_⟩
   ·rw[f1];exact hes.symm
   ·simp only[hrow,if_true,if_neg hin];exact f2
   ·have hj:j<ei.size:=by rw[<-f1];exact(List.getElem?_eq_some_iff.1 hv).1
    simp only[hes]
    rw[mV (by rw[hfl];exact hfit),hfl,if_neg ?_]
    ·exact f3 j v hv
    ·by_cases hlt:i<n
     ·have:=Nat.mul_le_mul_right ei.size (show i+1<=n by omega)
      rw[Nat.add_mul,Nat.one_mul]at this;omega
     ·have:=Nat.mul_le_mul_right ei.size (show n+m<=i by omega)
      rw[Nat.add_mul]at this;omega
include hT in
theorem abY (h:bF c st D β w) (hpre:∀k o,look k pre=some o->look k st=some o) (hD:∀k,D k->D' k)
  {ρ:Operand->Option AV} {ev:Operand->Value} (hρ:∀x v,ρ x=some v->bK (aO c st β) w β v (ev x)) {a b:Operand} {t t' ty:TypeId} {cap k es n:Nat} (hca:ρ a=some (.bO cap (.own k es 0 n)))
  {r:fk} (hr:uS T pre t t' cap k es n (eP ρ b)=some r) (need:r.need):
  ∃z w',(Builtin.append_ #[t,t'] ty #[ev a,ev b]).run P w=.ok z w'/\fo c st D' β w r.cu r.val z w':=by
 cases hb:eP ρ b with
 |none=>rw[hb]at hr;simp[uS]at hr
 |some v=>
  rw[hb]at hr
  cases v<;>try (simp only[uS,reduceCtorEq]at hr;done)
  case own k' es' s m=>
   simp only[uS]at hr
   split at hr
   rotate_left
   ·simp at hr
   rename_i e sz by' z e' sz' by'' z' htl htl2
   split at hr
   rotate_left
   ·simp at hr
   rename_i ei o he hk
   split at hr
   rotate_left
   ·simp at hr
   rename_i hc
   simp only[Bool.and_eq_true,beq_iff_eq,bne_iff_ne,ne_eq,Bool.not_eq_true']at hc
   obtain⟨⟨⟨⟨⟨⟨⟨c1,c2⟩,c3⟩,c4⟩,c5⟩,c6⟩,c7⟩,c8⟩:=hc
   subst c1 c2
   simp only[ay]at hr
   subst hr
   obtain⟨n1,n2⟩:n+m<=cap/\n+m<=o.len:=need
   obtain⟨base,m0,hev,_,hx1⟩:=(hρ a _ hca).bO
   subst c6
   have hown:=hx1.bT.own
   have hm0:m0=n:=by
    rcases hown with⟨b',o',cap',N,hsl,_⟩|⟨hsl,_,h0,_⟩
    ·rw[hev]at hsl;cases hsl;rfl
    ·rw[hev]at hsl;cases hsl;exact h0.symm
   subst hm0
   exact ac6 hT (ty:=ty) h hD htl htl2 rfl rfl he c7 c8 hx1.bT ⟨base,hev⟩ (uC hρ b _ hb) (hpre _ _ hk) c3 c4 c5 n1 n2
include hT hΓ in
theorem afo (h:bF c st D β w) (hpre:∀k o,look k pre=some o->look k st=some o) (hD:∀k,D k->D' k) {K:Nat} (hK:∀k,K<=k->k<K+cT->¬D k/\D' k)
  {ρ:Operand->Option AV} {ev:Operand->Value} (hρ:∀x v,ρ x=some v->bK (aO c st β) w β v (ev x)) {o:Oper} {r:fk}
  (hr:mJ T Γ K ρ pre o.op=some r) (need:r.need):lX P (execOp ev o) w (fo c st D' β w r.cu r.val):=by
 have hK0:¬D K/\D' K:=hK K bz (by simp[cT])
 obtain⟨dst,op,type,pos,after,guard⟩:=o
 simp only at hr
 cases op<;>simp only[mJ,reduceCtorEq]at hr
 case makeSlice t l cp=>
  split at hr
  rotate_left
  ·simp at hr
  cases hr0:fH T Γ K (eP ρ) pre (.makeSlice t l cp)with
  |none=>rw[hr0]at hr;simp at hr
  |some r0=>
   cases hc:eP ρ cp with
   |none=>rw[hr0,hc]at hr;simp at hr
   |some cv=>
    rw[hr0,hc]at hr
    cases cv<;>try (simp only[reduceCtorEq]at hr;done)
    case int kc m=>
     cases kc<;>try (simp only[reduceCtorEq]at hr;done)
     case i64=>
      simp only[ay]at hr
      subst hr
      have hN:=uC hρ
      simp only[fH]at hr0
      cases ht:look t T with
      |none=>rw[ht]at hr0;simp at hr0
      |some ti=>
       cases hl:eP ρ l with
       |none=>rw[ht,hl]at hr0;obtain⟨d,_,_,_⟩:=ti;cases d<;>simp at hr0
       |some lv=>
        rw[ht,hl,hc]at hr0
        obtain⟨d,sz,by',z⟩:=ti
        cases d<;>try (simp only[reduceCtorEq]at hr0;done)
        case slice e=>
         have hlv:=hN l lv hl
         have hcv:=hN cp _ hc
         cases lv<;>try (simp only[reduceCtorEq]at hr0;done)
         case int k n=>
          cases k<;>try (simp only[reduceCtorEq]at hr0;done)
          case i64=>
           simp only at hr0
           cases he:look e T with
           |none=>rw[he]at hr0;simp at hr0
           |some ei=>
            rw[he]at hr0
            simp only at hr0
            split at hr0
            ·simp at hr0
            ·rename_i hcc
             simp only[Bool.or_eq_true,beq_iff_eq,bne_iff_ne,ne_eq,not_or,Bool.not_eq_true,Decidable.not_not]at hcc
             simp only[ay]at hr0
             subst hr0
             obtain⟨x,w',hrun,⟨β',q1,q2,q3⟩,base,rfl⟩:=ME hT h hD hK0.1 hK0.2 ht rfl he hcc.1.1 hcc.1.2 hcc.2 need.1 need.2.1 need.2.2.1 need.2.2.2
             refine cN ?_ ⟨β',q1,q2,bw.bT (.cD (.bO rfl (q3.cell rfl) .nil) rfl)⟩
             simp only[execOp,Sem.run_bind,hlv.int,hcv.int,hrun,Result.andThen_ok,Sem.run_pure]
 case slice t x lo hi mx=>
  cases mx with
  |some mx=>
   simp only[mJ]at hr
   split at hr
   rotate_left
   ·simp at hr
   split at hr
   rotate_left
   ·simp at hr
   rename_i es n f hx
   split at hr
   rotate_left
   ·simp at hr
   rename_i e sz by' z ht
   split at hr
   rotate_left
   ·simp at hr
   rename_i ei l hh m he hl hhi hmx
   split at hr
   rotate_left
   ·simp at hr
   rename_i hc
   simp only[Bool.and_eq_true,beq_iff_eq,bne_iff_ne,ne_eq]at hc
   simp only[ay]at hr
   subst hr
   obtain⟨n1,n2,n3,n4⟩:0<=l/\l<=hh/\hh<=m/\m<=n:=need
   obtain⟨base,cap,cf,hev,g1,g2,g3,g4,g5⟩:=(uC hρ x _ hx).ak
   obtain⟨oh,rfl⟩:=Option.isSome_iff_exists.1 hc.2
   have hmx':∃km,ev mx=.int km m:=by
    rcases ji hρ hmx with⟨h1,_⟩|⟨km,om,h1,h2⟩
    ·cases h1
    ·cases h1;exact⟨km,h2⟩
   have hhi':∃kh,ev oh=.int kh hh:=by
    rcases ji hρ hhi with⟨h1,_⟩|⟨km,om,h1,h2⟩
    ·cases h1
    ·cases h1;exact⟨km,h2⟩
   obtain⟨km,hom⟩:=hmx'
   obtain⟨kh,hoh⟩:=hhi'
   have hb:(Instr.sliceBounds true n cap (lo.map ev) (some (ev oh)) (some (ev mx))).run P w=.ok (l.toNat,hh.toNat,m.toNat) w:=by
    have b1:=jg (P:=P) (w:=w) km m cap .slice3Acap aa aa
    have b2:=jg (P:=P) (w:=w) kh hh m.toNat .slice3B aa aa
    rcases ji hρ hl with⟨rfl,rfl⟩|⟨kl,ol,rfl,hol⟩
    ·simp[Instr.sliceBounds,hom,hoh,b1,b2]
    ·simp[Instr.sliceBounds,hom,hol,hoh,b1,b2,jg kl l hh.toNat .slice3C n1 aa]
   have hrun:=yJ hT ht rfl he hb (base:=base)
   refine cN (w':=w) ?_ (dZ h hD (bw.bT (.cD (.bO (base:=if m.toNat=l.toNat then base else base.map (·.add (l.toNat*ei.size))) (n:=hh.toNat-l.toNat) rfl ?_ .nil) rfl)))
   ·simp only[execOp,Sem.run_bind,Option.map_some,hev,hrun,Result.andThen_ok,Sem.run_pure]
   ·refine .ak (cf:=fun i=>cf (i+l.toNat)) ?_ g2 aa (fun i hi=>g4 _ aa) (fun i hi=>g5 _ aa) .nil
    by_cases hz:hh.toNat-l.toNat=0
    ·exact .inl hz
    ·right
     rcases g1 with g1|⟨b,o,rfl,g1⟩
     ·omega
     ·refine⟨b,o+l.toNat*ei.size,?_,fun i hi=>?_⟩
      ·rw[if_neg aa];simp[Addr.add_mid]
      ·have:=g1 (i+l.toNat) aa
       rw[Nat.add_mul]at this
       rw[hc.1.1,Nat.add_assoc,Nat.add_comm (l.toNat*es)]
       exact this
  |none=>
   simp only[mJ]at hr
   split at hr
   ·rename_i cap es n f hx
    split at hr
    rotate_left
    ·simp at hr
    rename_i e sz by' z ht
    split at hr
    rotate_left
    ·simp at hr
    rename_i ei l hh he hl hhi
    split at hr
    rotate_left
    ·simp at hr
    rename_i hc
    simp only[Bool.and_eq_true,beq_iff_eq,bne_iff_ne,ne_eq]at hc
    simp only[ay]at hr
    subst hr
    obtain⟨n1,n2,n3⟩:0<=l/\l<=hh/\hh<=n:=need
    obtain⟨base,m0,hev,_,hx1⟩:=(hρ x _ hx).bO
    obtain⟨base',cap',cf,hsl,g1,g2,g3,g4,g5⟩:=hx1.bT.ak
    rw[hev]at hsl
    cases hsl
    have hb:=ad7 (P:=P) (cap:=cap) hρ hl hhi n1 n2 n3 g3
    have hrun:=yJ hT ht rfl he hb (base:=base)
    refine cN (w':=w) ?_ (dZ h hD (bw.bT (.cD (.bO (base:=if cap=l.toNat then base else base.map (·.add (l.toNat*ei.size))) (n:=hh.toNat-l.toNat) rfl ?_ .nil) rfl)))
    ·simp only[execOp,Sem.run_bind,Option.map_none,hev,hrun,Result.andThen_ok,Sem.run_pure]
    ·refine .ak (cf:=fun i=>cf (i+l.toNat)) ?_ g2 aa (fun i hi=>g4 _ aa) (fun i hi=>g5 _ aa) .nil
     by_cases hz:hh.toNat-l.toNat=0
     ·exact .inl hz
     ·right
      rcases g1 with g1|⟨b,o,rfl,g1⟩
      ·omega
      ·refine⟨b,o+l.toNat*ei.size,?_,fun i hi=>?_⟩
       ·rw[if_neg aa];simp[Addr.add_mid]
       ·have:=g1 (i+l.toNat) aa
        rw[Nat.add_mul]at this
        rw[hc.1,Nat.add_assoc,Nat.add_comm (l.toNat*es)]
        exact this
   ·rename_i cap k es s n hx
    split at hr
    rotate_left
    ·simp at hr
    rename_i e sz by' z ht
    split at hr
    rotate_left
    ·simp at hr
    rename_i ei ob l hh he hob hl hhi
    split at hr
    rotate_left
    ·simp at hr
    rename_i hc
    simp only[Bool.and_eq_true,beq_iff_eq,bne_iff_ne,ne_eq]at hc
    simp only[ay]at hr
    subst hr
    obtain⟨n1,n2,n3,n4⟩:0<=l/\l<=hh/\hh<=cap/\(s:Int)+hh<=ob.len:=need
    obtain⟨base,m0,hev,_,hx1⟩:=(hρ x _ hx).bO
    obtain⟨⟨⟨c1,c2⟩,c3⟩,c4⟩:=hc
    rcases hx1.bT.own with⟨b,off,cap',N,hsl,k1,k2,k3,k4,k5,k6⟩|⟨hsl,rfl,rfl,k6⟩
    ·rw[hev]at hsl
     cases hsl
     obtain⟨cs,cty,cfo,e1,e2,e3,e4,e5,e6⟩:=h.elems (hpre _ _ hob) c3 k1
     have hb:=MT (P:=P) (w:=w) (cap:=cap) hρ hl hhi n1 n2 n3 k4
     have hrun:=yJ hT ht rfl he hb (base:=some ⟨b,off,none⟩)
     refine cN (w':=w) ?_ (dZ h hD (bw.bT (.cD (.bO (base:=if cap=l.toNat then some ⟨b,off,none⟩else(some ⟨b,off,none⟩:Option Addr).map (·.add (l.toNat*ei.size))) (n:=hh.toNat-l.toNat) rfl ?_ .nil) rfl)))
     ·simp only[execOp,Sem.run_bind,Option.map_none,hev,hrun,Result.andThen_ok,Sem.run_pure]
     ·by_cases hz:cap=l.toNat
      ·rw[if_pos hz]
       exact .own k1 ⟨aa,aa⟩ aa (.inl aa) k6 .nil
      ·rw[if_neg hz]
       have ho:off=s*es:=k5.resolve_left aa
       rw[show Option.map (·.add (l.toNat*ei.size)) (some (⟨b,off,none⟩:Addr))=some ⟨b,off+l.toNat*ei.size,none⟩ by simp[Addr.add_mid]]
       exact .own k1 ⟨aa,aa⟩ aa (.inr (by rw[ho,c1,Nat.add_mul])) k6 .nil
    ·rw[hev]at hsl
     cases hsl
     have l0:l=0:=aa
     have h0:hh=0:=aa
     subst l0 h0
     have hb:=MT (P:=P) (w:=w) (cap:=0) hρ hl hhi n1 n2 aa bz
     have hrun:=yJ hT ht rfl he hb (base:=none)
     refine cN (w':=w) ?_ (dZ h hD (bw.bT (.cD (.bO (base:=none) (n:=0) rfl (.own0 k6 .nil) .nil) rfl)))
     simp only[execOp,Sem.run_bind,Option.map_none,hev,hrun,Result.andThen_ok,Sem.run_pure]
     simp
   ·simp at hr
 case call cl=>
  obtain⟨callee,args,argTypes⟩:=cl
  cases callee with
  |invoke r m=>simp at hr
  |value f=>
   simp only at hr
   split at hr
   ·exact OZ hT hΓ h hpre hD hK hρ (o:=⟨dst,.call ⟨.value f,args,argTypes⟩,type,pos,after,guard⟩) rfl hr need
   ·simp at hr
  |builtin bi=>
   cases bi<;>simp only[reduceCtorEq]at hr
   case cap=>
    cases ht:argTypes[0]? with
    |none=>rw[ht]at hr;simp at hr
    |some t=>
     rw[ht]at hr
     split at hr
     rotate_left
     ·simp at hr
     rename_i t' a ht' hargs
     cases ht'
     split at hr
     rotate_left
     ·simp at hr
     rename_i e sz by' z n v htl ha
     simp only[cq,ay]at hr
     subst hr
     obtain⟨base,m0,hev,_,_⟩:=(hρ a _ ha).bO
     have hu:=(hT t _ htl).dA
     have hargs':Array.map ev args=#[ev a]:=by apply Array.ext';simp[hargs]
     refine cN (x:=.int .i64 n) (w':=w) ?_ (dZ h hD (bw.bT (.cD (.int .nil) rfl)))
     have hres:(execOp ev ⟨dst,.call ⟨.builtin .cap,args,argTypes⟩,type,pos,after,guard⟩:Sem Next)=builtin .cap argTypes type (args.map fun|.const _=>true|_=>false) (Array.map ev args):=rfl
     rw[hres,hargs',hev]
     simp[builtin,Builtin.cap_,ht,run_underlying hu,goInt]
   case append=>
    cases ht:argTypes[0]? with
    |none=>rw[ht]at hr;simp at hr
    |some t=>
     cases ht2:argTypes[1]? with
     |none=>rw[ht,ht2]at hr;simp at hr
     |some t'=>
      rw[ht,ht2]at hr
      split at hr
      rotate_left
      ·simp at hr
      rename_i t1 t1' a b e1 e2 hargs
      cases e1
      cases e2
      have hargs':Array.map ev args=#[ev a,ev b]:=by apply Array.ext';simp[hargs]
      have hres:(execOp ev ⟨dst,.call ⟨.builtin .append,args,argTypes⟩,type,pos,after,guard⟩:Sem Next)=builtin .append argTypes type (args.map fun|.const _=>true|_=>false) (Array.map ev args):=rfl
      rw[hres,hargs']
      split at hr
      ·rename_i cap k es n hca
       cases hself:uS T pre t t' cap k es n (eP ρ b)with
       |some r'=>
        rw[hself]at hr
        simp only[ay]at hr
        subst hr
        obtain⟨zv,w',hrun,hR⟩:=abY hT h hpre hD hρ (ty:=type) hca hself need
        have hat:(Builtin.append_ argTypes type #[ev a,ev b]).run P w=(Builtin.append_ #[t,t'] type #[ev a,ev b]).run P w:=by
         simp only[Builtin.append_,ht,ht2]
         rfl
        refine cN ?_ hR
        simp only[builtin,Sem.run_bind,hat,hrun,Result.andThen_ok,Sem.run_pure]
       |none=>
       rw[hself]at hr
       simp only at hr
       split at hr
       ·rename_i K' e' nm cu iV hr'
        simp only[ay]at hr
        subst hr
        obtain⟨q1,q2⟩:=ace.1 need
        obtain⟨z,w',hrun,hR⟩:=Yn hT h hpre hD hK0 hρ (ty:=type) hca hargs hr' q2 q1
        refine cN ?_ hR
        simp only[builtin,Sem.run_bind,hrun,Result.andThen_ok,Sem.run_pure]
       ·simp at hr
      ·rename_i cap es n f hca
       have hat:∀x y,(Builtin.append_ argTypes type #[x,y]).run P w=(Builtin.append_ #[t,t'] type #[x,y]).run P w:=fun x y=>by
        simp only[Builtin.append_,ht,ht2]
        rfl
       split at hr
       ·rename_i e sz by' z e' sz' by'' z' y htl htl2 hb
        split at hr
        rotate_left
        ·simp at hr
        rename_i ei he
        split at hr
        rotate_left
        ·simp at hr
        rename_i m g hrd
        split at hr
        ·simp at hr
        rename_i hc
        simp only[Bool.or_eq_true,beq_iff_eq,bne_iff_ne,ne_eq,not_or,Bool.not_eq_true,Decidable.not_not]at hc
        obtain⟨⟨⟨c2,c3⟩,c4⟩,c5⟩:=hc
        simp only[ay]at hr
        subst hr
        subst c5
        obtain⟨n2,n3⟩:cap<n+m/\(n+m)*(ei.bytes+1)*2<=2^47:=need
        obtain⟨zv,w',hrun,hR⟩:=adq hT (ty:=type) h hpre hD hK0.1 hK0.2 htl htl2 rfl rfl he c2 c3 c4 (hρ a _ hca) (uC hρ b y hb) hrd n2 n3
        refine cN ?_ hR
        simp only[builtin,Sem.run_bind,hat,hrun,Result.andThen_ok,Sem.run_pure]
       ·rename_i e sz by' z sz' by'' z' m htl htl2 hb
        split at hr
        rotate_left
        ·simp at hr
        rename_i ei he
        split at hr
        ·simp at hr
        rename_i hc
        simp only[Bool.or_eq_true,beq_iff_eq,bne_iff_ne,ne_eq,not_or,Bool.not_eq_true,Decidable.not_not]at hc
        obtain⟨⟨⟨c2,c3⟩,c4⟩,c5⟩:=hc
        simp only[ay]at hr
        subst hr
        subst c5
        obtain⟨n1,n2,n3⟩:0<m/\cap<n+m.toNat/\(n+m.toNat)*(ei.bytes+1)*2<=2^47:=need
        obtain⟨zv,w',hrun,hR⟩:=ai3 hT (ty:=type) (m:=m.toNat) h hD hK0.1 hK0.2 htl htl2 rfl rfl he c2 c3 c4 (hρ a _ hca) aa n2 n3
        have hbv:=(uC hρ b _ hb).int
        rw[show((m.toNat:Nat):Int)=m by omega,<-hbv]at hrun
        refine cN ?_ hR
        simp only[builtin,Sem.run_bind,hat,hrun,Result.andThen_ok,Sem.run_pure]
       ·simp at hr
      ·simp at hr
include hT hΓ in
theorem P9 (h:bF c st D β w) (hpre:∀k o,look k pre=some o->look k st=some o) (hD:∀k,D k->D' k) {K:Nat} (hK:∀k,K<=k->k<K+cT->¬D k/\D' k)
  {ρ:Operand->Option AV} {ev:Operand->Value} (hρ:∀x v,ρ x=some v->bK (aO c st β) w β v (ev x)) (hev:∀v,ev (.const v)=v) {o:Oper} {r:fk}
  (hr:lM T Γ K ρ pre o.op=some r) (need:r.need):lX P (execOp ev o) w (fo c st D' β w r.cu r.val):=by
 unfold lM at hr
 cases hn:rz T ρ o.op with
 |some v=>
  rw[hn]at hr
  simp only[cq,ay]at hr
  subst hr
  obtain⟨dst,op,type,pos,after,guard⟩:=o
  obtain⟨o,t,x,y,u,b,es,n,f,z,h1,hx,hy,hs,h2,h3⟩:=V5 hn
  simp only at h1
  subst h1 h2
  obtain⟨cs,hv,hv2⟩:=bK.one (hρ x _ hx) rfl
  have hnil:=(hρ y _ hy).nil
  have hbool:∀t,bK (aO c st β) w β (.bool t) (.bool t):=fun t=>bw.bT (.cD (.bool .nil) rfl)
  have hsl:∃e,P.underlying t=some (.slice e):=by
   unfold isSlice at hs
   cases ht:look t T with
   |none=>rw[ht]at hs;simp at hs
   |some ti=>
    rw[ht]at hs
    have hu:=(hT _ _ ht).dA
    simp only at hs
    cases hd:ti.desc<;>rw[hd]at hs<;>simp only[KS,Bool.false_eq_true]at hs
    case slice e=>exact⟨e,by rw[hu,hd]⟩
  obtain⟨e,hu⟩:=hsl
  have hev':∃base cap,ev x=.slice base n cap/\base.isNone=b:=by
   cases hv with
   |eR g0 g1 g2 g3 g4 g5 g6=>
    rename_i base cap cs' cf
    cases g6
    exact⟨base,cap,by simpa [show(eR b es n f).isAgg=false from rfl,eq_comm]using hv2,g0⟩
  obtain⟨base,cap,hev,hb⟩:=hev'
  refine cN (x:=.bool z) (w':=w) ?_ (dZ h hD (hbool _))
  rcases h3 with⟨rfl,rfl⟩|⟨rfl,rfl⟩
  ·simp only[execOp,hev,hnil,eqGuard_at_slice,binOp]
   simp[run_equal_slice_nil w t e base n cap hu,hb]
  ·simp only[execOp,hev,hnil,eqGuard_at_slice,binOp]
   simp[run_equal_slice_nil w t e base n cap hu,hb]
 |none=>
  rw[hn]at hr
  simp only at hr
  cases hstr:qL T pre ρ o.op with
  |some r'=>
   rw[hstr]at hr
   simp only[ay]at hr
   subst hr
   exact ai2 hT h hpre hD hρ (o:=o) hev hstr need
  |none=>
  rw[hstr]at hr
  simp only at hr
  cases hcap:mJ T Γ K ρ pre o.op with
  |some r'=>
   rw[hcap]at hr
   simp only[ay]at hr
   subst hr
   exact afo hT hΓ h hpre hD hK hρ hcap need
  |none=>
  rw[hcap]at hr
  simp only at hr
  split at hr
  ·exact vE hT hΓ h hpre hD hK hρ hr need
  ·refine YU hT hΓ h hpre hD hK (ρ:=eP ρ) (fun x v hx=>?_) hr need
   unfold eP at hx
   cases hx':ρ x with
   |none=>rw[hx']at hx;simp at hx
   |some u=>
    rw[hx']at hx
    simp only[ay]at hx
    subst hx
    exact(hρ x u hx').bp
end ops
end Go.Am
namespace Go.Am
open AV
def tr (M:Nat->Prop) (w:World) (β:aY) (sl:List (Nat×AV)) (tmps:Array Value):Prop:=∀t v,look t sl=some v->∃x,tmps[t]?=some x/\bK M w β v x
def RA (D:Nat):Deferred:={target:=.collected D,args:=#[]}
def qH (c:Ctx) (ds:List Deferred) (w:World):Prop:=
 (c.ro.isSome=true->ds=[])/\∃Ds:List Nat,ds=Ds.map RA/\Ds.Nodup/\∀D∈Ds,w.heap[D]?=some (.deferred (some []))/\c.w0.heap.size<=D
theorem qH.nil {c:Ctx} {w:World}:qH c [] w:=⟨fun _=>rfl,[],rfl,.nil,fun _ h=>by cases h⟩
theorem qH.iM {c:Ctx} {ds:List Deferred} {w w':World} {st:aC} {D:Nat->Prop} {β β':aY} {M':Nat->Prop} (h:qH c ds w) (hw:bF c st D β w) (he:cV (aO c st β) w β M' w' β'):qH c ds w':=by
 obtain⟨h0,Ds,h1,h2,h3⟩:=h
 refine⟨h0,Ds,h1,h2,fun D hD=>⟨(he.heap D _ ?_ (h3 D hD).1).1,(h3 D hD).2⟩⟩
 rintro(hm|⟨k,o,N,g1,_,g3⟩)
 ·exact Nat.not_lt.2 (h3 D hD).2 (hw.gE D hm).1
 ·obtain⟨b,N',cs,ty,q1,q2,_⟩:=hw.obj k o g1 _ g3
  rw[g3]at q1
  cases q1
  rw[(h3 D hD).1]at q2
  cases q2
def Rel (c:Ctx) (nt:Nat) (D:Nat->Prop) (sl:List (Nat×AV)) (st:aC) (a:Act) (w:World):Prop:=
 qH c a.defers w/\a.tmps.size=nt/\∃β,bF c st D β w/\tr (aO c st β) w β sl a.tmps
theorem yQ {dst:Option Tmp} {v:AV} {sl:List (Nat×AV)} {t:Nat}:look t (pX dst v sl)=if dst=some t then some v else look t sl:=by
 cases dst with
 |none=>simp[pX]
 |some d=>
  simp only[pX,Gz,ay]
  by_cases h:t=d
  ·simp[h]
  ·have:¬d=t:=fun e=>h e.symm
   simp[h,this]
theorem oS {st:aC} {k:Nat}:∀{ks:List Nat},look k (pick st ks)=if k∈ks then look k st else none
 |[]=>by simp[pick,look]
 |j::ks=>by
  simp only[pick]
  cases hj:look j st with
  |none=>
   simp only[oS (ks:=ks),List.mem_cons]
   by_cases h:k=j
   ·subst h;simp[hj]
   ·simp[h]
  |some o=>
   simp only[Gz,oS (ks:=ks),List.mem_cons]
   by_cases h:k=j
   ·subst h;simp[hj]
   ·simp[h]
theorem yC {st:aC}:∀{ks:List Nat},((pick st ks).map (·.1)).Nodup
 |[]=>by simp[pick]
 |j::ks=>by
  simp only[pick]
  cases hj:look j st with
  |none=>exact yC
  |some o=>
   have:=yC (st:=st) (ks:=ks)
   revert this
   generalize pick st ks=l
   intro hl
   induction l with
   |nil=>simp[put]
   |cons p l ih=>
    obtain⟨i,b⟩:=p
    simp only[List.map_cons,List.nodup_cons]at hl
    simp only[put]
    by_cases h:(i==j)=true
    ·have:i=j:=by simpa using h
     subst this
     simp only[BEq.rfl,if_true,List.map_cons,List.nodup_cons]
     exact hl
    ·simp only[h,Bool.false_eq_true,if_false,List.map_cons,List.nodup_cons]
     refine⟨fun hm=>?_,ih hl.2⟩
     have hmem:∀(l:aC),i∈(put j o l).map (·.1)->i=j\/i∈l.map (·.1):=by
      intro l
      induction l with
      |nil=>simp[put]
      |cons q l ih2=>
       obtain⟨i2,b2⟩:=q
       simp only[put]
       by_cases h2:(i2==j)=true
       ·simp only[h2,if_true,List.map_cons,List.mem_cons]
        rintro(h3|h3)
        ·exact .inl h3
        ·exact .inr (.inr h3)
       ·simp only[h2,Bool.false_eq_true,if_false,List.map_cons,List.mem_cons]
        rintro(h3|h3)
        ·exact .inr (.inl h3)
        ·exact(ih2 h3).imp id .inr
     rcases hmem l hm with h3|h3
     ·exact h (by simpa using h3)
     ·exact hl.1 h3
theorem Cc {p:Prop} {l:List Prop}:az (p::l)↔p/\az l:=by
 cases l<;>simp[az]
theorem fD {a b:List Prop}:az (a++b)↔az a/\az b:=by
 induction a with
 |nil=>simp[az]
 |cons p a ih=>rw[List.cons_append,Cc,Cc,ih,and_assoc]
theorem KW {orc:List (Nat×Bool)} {i:Nat} {r:fk} (h:az (guess orc i r).iV):az r.iV/\(guess orc i r).val=r.val/\(guess orc i r).cu=r.cu:=by
 unfold guess at h ⊢
 split
 ·rename_i t ht
  rw[ht]at h
  simp only at h
  split
  ·rename_i b hb
   rw[hb]at h
   simp only at h
   obtain⟨h1,h2⟩:=Cc.1 h
   exact⟨h2,by rw[hb,h1],rfl⟩
  ·rename_i hb
   split at h
   ·rename_i b hb2
    exact absurd hb2 (hb b)
   ·exact⟨h,rfl,rfl⟩
 ·rename_i ht
  rw[ht]at h
  exact⟨h,rfl,rfl⟩
section one
variable {c:Ctx} {st:aC} {D D':Nat->Prop} {β:aY} {w:World}
theorem Bd:∀{l:aC} {st:aC},bF c st D β w->(∀k o,look k l=some o->look k st=some o)->(l.map (·.1)).Nodup->
  bF c (cM (fV l) st) D β w/\cV (aO c st β) w β (aO c (cM (fV l) st) β) w β/\
   ∀k o,look k (kY l)=some o->look k (cM (fV l) st)=some o
 |[],st,h,_,_=>⟨h,cV.refl _ _ _,fun k o hk=>by simp[kY,look]at hk⟩
 |(j,o)::l,st,h,hl,hn=>by
  simp only[List.map_cons,List.nodup_cons]at hn
  have hj:look j st=some o:=hl j o (by simp[look])
  have hne:∀k o',look k l=some o'->k≠j:=fun k o' hk e=>by
   subst e
   apply hn.1
   have:∀l:aC,look k l=some o'->k∈l.map (·.1):=by
    intro l
    induction l with
    |nil=>simp[look]
    |cons q l ih=>
     obtain⟨i,b⟩:=q
     simp only[look]
     split
     ·rename_i hh
      intro _
      have:i=k:=by simpa using hh
      simp[this]
     ·intro h2
      simp only[List.map_cons,List.mem_cons]
      exact .inr (ih h2)
   exact this l hk
  by_cases hc:(o.row&&o.wr)=true
  ·obtain⟨q1,q2⟩:=h.freeze hj
   have hl':∀k o',look k l=some o'->look k (put j {o with wr:=false} st)=some o':=fun k o' hk=>by
    rw[gl (hne k o' hk)]
    refine hl k o' ?_
    have:¬j=k:=fun e=>hne k o' hk e.symm
    simp[look,this,hk]
   obtain⟨r1,r2,r3⟩:=Bd q1 hl' hn.2
   simp only[fV,hc,if_true,cM]
   refine⟨r1,q2.trans r2,fun k o' hk=>?_⟩
   simp only[kY,List.map_cons,look]at hk
   split at hk
   ·rename_i hjk
    have hjk':j=k:=by simpa using hjk
    subst hjk'
    simp only[Bool.and_eq_true]at hc
    rw[if_pos hc.1]at hk
    simp only[ay]at hk
    subst hk
    rw[lN]
    have:dm (fV l) j=none:=by
     cases he:dm (fV l) j with
     |none=>rfl
     |some r=>
      exfalso
      have hmem:∀l:aC,∀r,dm (fV l) j=some r->∃o',look j l=some o':=by
       intro l
       induction l with
       |nil=>intro r h;simp[fV,dm]at h
       |cons q l ih=>
        obtain⟨i,b⟩:=q
        intro r h
        by_cases hij:i=j
        ·exact⟨b,by simp[look,hij]⟩
        ·simp only[fV]at h
         split at h
         ·simp only[dm]at h
          cases h3:dm (fV l) j with
          |some r'=>
           obtain⟨o',ho'⟩:=ih r' h3
           exact⟨o',by simp[look,hij,ho']⟩
          |none=>rw[h3]at h;simp[hij]at h
         ·obtain⟨o',ho'⟩:=ih r h
          exact⟨o',by simp[look,hij,ho']⟩
      obtain⟨o',ho'⟩:=hmem l r he
      exact hne j o' ho' rfl
    rw[this]
    simp only[jd]
   ·exact r3 k o' (by simpa [kY]using hk)
  ·have hl':∀k o',look k l=some o'->look k st=some o':=fun k o' hk=>by
    refine hl k o' ?_
    have:¬j=k:=fun e=>hne k o' hk e.symm
    simp[look,this,hk]
   obtain⟨r1,r2,r3⟩:=Bd h hl' hn.2
   have hf:fV ((j,o)::l)=fV l:=by simp[fV,hc]
   rw[hf]
   refine⟨r1,r2,fun k o' hk=>?_⟩
   simp only[kY,List.map_cons,look]at hk
   split at hk
   ·rename_i hjk
    have hjk':j=k:=by simpa using hjk
    subst hjk'
    have ho:(if o.row=true then {o with wr:=false} else o)=o:=by
     split
     ·rename_i hr
      simp only[hr,Bool.true_and,Bool.not_eq_true]at hc
      cases o;simp_all
     ·rfl
    rw[ho]at hk
    simp only[ay]at hk
    subst hk
    rw[lN]
    have:dm (fV l) j=none:=by
     cases he:dm (fV l) j with
     |none=>rfl
     |some r=>
      exfalso
      have hmem:∀l:aC,∀r,dm (fV l) j=some r->∃o',look j l=some o':=by
       intro l
       induction l with
       |nil=>intro r h;simp[fV,dm]at h
       |cons q l ih=>
        obtain⟨i,b⟩:=q
        intro r h
        by_cases hij:i=j
        ·exact⟨b,by simp[look,hij]⟩
        ·simp only[fV]at h
         split at h
         ·simp only[dm]at h
          cases h3:dm (fV l) j with
          |some r'=>
           obtain⟨o',ho'⟩:=ih r' h3
           exact⟨o',by simp[look,hij,ho']⟩
          |none=>rw[h3]at h;simp[hij]at h
         ·obtain⟨o',ho'⟩:=ih r h
          exact⟨o',by simp[look,hij,ho']⟩
      obtain⟨o',ho'⟩:=hmem l r he
      exact hne j o' ho' rfl
    rw[this]
    exact hj
   ·exact r3 k o' (by simpa [kY]using hk)
theorem zC:∀(e f:List (Nat×Option au)) (st:aC),cM (e++f) st=cM f (cM e st)
 |[],f,st=>rfl
 |(k,some o)::e,f,st=>by simp only[List.cons_append,cM,zC e]
 |(k,none)::e,f,st=>by simp only[List.cons_append,cM,zC e]
theorem aeZ {M:Nat->Prop} {x:Value} {v:AV} (h:ofConst x=some v):bK M w β v x:=by
 unfold ofConst at h
 split at h
 ·simp only[ay]at h;subst h;exact bw.bT (.cD (.bool .nil) rfl)
 ·simp only[ay]at h;subst h;exact bw.bT (.cD (.int .nil) rfl)
 ·simp only[ay]at h;subst h;exact bw.bT (.cD (.vnil .nil) rfl)
 ·simp only[ay]at h;subst h;exact bw.bT (.cD (.void rfl .nil) rfl)
 ·simp only[ay]at h;subst h;exact bw.bT (.cD (.void rfl .nil) rfl)
 ·simp only[ay]at h;subst h;exact bw.bT (.cD (.str .nil) rfl)
 ·simp at h
theorem Lc {M:Nat->Prop} {s:aK} {a:Act} (h:tr M w β s.cQ a.tmps):∀x v,s.iw x=some v->bK M w β v (a.eval x):=by
 intro x v hx
 cases x with
 |tmp t=>
  obtain⟨y,hy,hv⟩:=h t v hx
  simp only[Act.eval,Array.getD_eq_getD_getElem?,hy,Option.getD_some]
  exact hv
 |const y=>exact aeZ hx
 |global g=>simp[aK.iw]at hx
 |func f=>
  simp only[aK.iw,ay]at hx
  subst hx
  exact bw.bT (.cD (.func (vs:=[]) .nil rfl .nil) rfl)
theorem ahT {M:Nat->Prop} {ops:Array Oper} {sl:List (Nat×AV)} {a:Act} (h:tr M w β sl a.tmps) {o:Oper} {b:Bool} (hw:qj ops.toList sl o=some b):
  Region.wanted o (yielded ops a.tmps)=b:=by
 unfold qj at hw
 unfold Region.wanted
 cases hg:o.guard with
 |none=>rw[hg]at hw;simp only[ay]at hw;simp[hw]
 |some gw=>
  obtain⟨g,want⟩:=gw
  rw[hg]at hw
  simp only at hw ⊢
  cases hp:ops.toList[g]? with
  |none=>rw[hp]at hw;simp at hw
  |some p=>
   rw[hp]at hw
   simp only at hw
   cases hd:p.dst with
   |none=>rw[hd]at hw;simp at hw
   |some d=>
    rw[hd]at hw
    simp only at hw
    cases hl:look d sl with
    |none=>rw[hl]at hw;simp at hw
    |some v=>
     rw[hl]at hw
     cases v<;>try simp only[reduceCtorEq]at hw
     case tuple l=>
      cases l with
      |cons _ _=>simp at hw
      |nil=>
       simp only[ay]at hw
       subst hw
       obtain⟨x,hx,hv⟩:=h d _ hl
       obtain⟨xs,h1,h2⟩:=hv
       subst h1
       have hy:yielded ops a.tmps g=none:=by
        have hp':ops[g]?=some p:=by simpa using hp
        simp[yielded,hp',hd,hx]
       rw[hy]
       simp
     case bool t=>
      obtain⟨x,hx,hv⟩:=h d _ hl
      have:=hv.bool
      subst this
      have hy:yielded ops a.tmps g=some t:=by
       have hp':ops[g]?=some p:=by simpa using hp
       simp[yielded,hp',hd,hx]
      rw[hy]
      cases t<;>cases want<;>simp_all
theorem PL {T:Types} {Γ:aX} {K:Nat} {ρ:Operand->Option AV} {st:aC} {op:Op} {r:fk} (h:lM T Γ K ρ st op=some r):∀c,op≠.defer c:=by
 rintro c rfl
 have h0:∀ρ',fH T Γ K ρ' st (.defer c)=none:=fun _=>rfl
 have h1:∀ρ',rm T Γ K ρ' st (.defer c)=none:=fun ρ'=>by
  unfold rm
  simp only[h0]
  split
  ·split<;>rfl
  ·split
   ·rfl
   ·rfl
 have h2:rz T ρ (.defer c)=none:=rfl
 have h3:qL T st ρ (.defer c)=none:=rfl
 have h4:mJ T Γ K ρ st (.defer c)=none:=rfl
 simp only[lM,h2,h3,h4,h0,h1]at h
 revert h
 split<;>exact fun h=>by cases h
variable {P:Program} {T:Types} (hT:fu P T) {Γ:aX} (hΓ:bq P Γ) {orc:List (Nat×Bool)}
include hT hΓ in
theorem NT {ops:Array Oper} {nt N0 i:Nat} {sl:List (Nat×AV)} {a:Act} (hrel:Rel c nt D sl st a w) {o:Oper} {r:Rec} (hr:nQ T Γ orc ops.toList ⟨sl,st,N0⟩ i o=some r) (need:r.res.need)
  (hdst:∀d,o.dst=some d->d<nt) (hD:∀k,D k->D' k) (hK:∀k,N0+cT*i<=k->k<N0+cT*i+cT->¬D k/\D' k) {K:Act->World->Prop} {Q:Exit->Act->World->Prop}
  (hn:∀a' w',Rel c nt D' (pX o.dst r.res.val sl) (cM r.res.cu st) a' w'->K a' w'):
  if Region.wanted o (yielded ops a.tmps)then o.wpIn (iK c.ro) 3 P a w K Q else(∀f,o.about P w a.eval=some f->(iK c.ro).fn f)/\K (a.put o.dst undef) w:=by
 obtain⟨hdef,hsz,β,hw,hs⟩:=hrel
 have hfin:∀{cu:List (Nat×Option au)} {v:AV} {x:Value} {w':World},fo c st D' β w cu v x w'->Rel c nt D' (pX o.dst v sl) (cM cu st) (a.put o.dst x) w':=by
  rintro cu v x w' ⟨β',q1,q2,q3⟩
  refine⟨?_,?_,β',q1,fun t u ht=>?_⟩
  ·have:=qH.iM hdef hw q2
   cases o.dst<;>simpa [Act.put]using this
  ·cases o.dst<;>simpa [Act.put]using hsz
  ·rw[yQ]at ht
   split at ht
   ·rename_i hd
    simp only[ay]at ht
    subst ht
    have:=hdst t hd
    refine⟨x,?_,q3⟩
    simp only[hd,Act.put]
    exact Array.getElem?_setIfInBounds_self_of_lt (by rw[hsz];exact this)
   ·rename_i hd
    obtain⟨y,hy,hv⟩:=hs t u ht
    refine⟨y,?_,hv.iM q2⟩
    cases hdd:o.dst with
    |none=>simpa [Act.put]using hy
    |some d=>
     have hne:d≠t:=fun e=>hd (by rw[hdd,e])
     simp only[Act.put]
     rw[Array.getElem?_setIfInBounds_ne hne];exact hy
 unfold nQ at hr
 simp only[force_eq]at hr
 cases hwa:qj ops.toList sl o with
 |none=>rw[hwa]at hr;simp at hr
 |some b=>
  rw[hwa]at hr
  rw[ahT hs hwa]
  cases b with
  |false=>
   simp only[ay]at hr
   subst hr
   simp only[Bool.false_eq_true,if_false]
   exact⟨fun _ _=>trivial,hn _ _ (hfin (dZ hw hD ⟨[],by simp[undef],trivial⟩))⟩
  |true=>
   simp only[if_true]
   simp only at hr
   have hρ:=Lc (s:=⟨sl,st,N0⟩) hs
   cases hop:lM T Γ (N0+cT*i) (aK.iw ⟨sl,st,N0⟩) (pick st (nA st (aK.iw ⟨sl,st,N0⟩) o.op)) o.op with
   |some q=>
    rw[hop]at hr
    simp only[ay]at hr
    subst hr
    obtain⟨need,e1,e2⟩:=KW need
    simp only[e1,e2]at hn
    refine(P9 hT hΓ hw (fun k o hk=>?_) hD hK hρ (fun _=>rfl) hop need).wpIn (PL hop) fun x w' hx=>hn _ _ (hfin hx)
    rw[oS]at hk
    split at hk
    ·exact hk
    ·simp at hk
   |none=>
    rw[hop]at hr
    simp only at hr
    cases hfe:fV (pick st (nA st (aK.iw ⟨sl,st,N0⟩) o.op))with
    |nil=>rw[hfe]at hr;simp at hr
    |cons e1 e2=>
     rw[hfe]at hr
     simp only at hr
     cases hop2:lM T Γ (N0+cT*i) (aK.iw ⟨sl,st,N0⟩) (kY (pick st (nA st (aK.iw ⟨sl,st,N0⟩) o.op))) o.op with
     |none=>rw[hop2]at hr;simp at hr
     |some q=>
      rw[hop2]at hr
      simp only[ay]at hr
      subst hr
      obtain⟨need,e1',_⟩:=KW need
      simp only[e1']at hn
      obtain⟨f1,f2,f3⟩:=Bd (l:=pick st (nA st (aK.iw ⟨sl,st,N0⟩) o.op)) hw (fun k o hk=>by
       rw[oS]at hk
       split at hk
       ·exact hk
       ·simp at hk) yC
      refine(P9 hT hΓ f1 f3 hD hK (fun x v hx=>(hρ x v hx).iM f2) (fun _=>rfl) hop2 need).wpIn (PL hop2) fun x w' hx=>hn _ _ (hfin ?_)
      obtain⟨β',q1,q2,q3⟩:=hx
      rw[<-hfe]
      refine⟨β',?_,?_,?_⟩
      ·rw[zC];exact q1
      ·rw[zC];exact f2.trans q2
      ·rw[zC];exact q3
end one
end Go.Am
namespace Go.Am
open AV
section locality
variable {T:Types} {Γ:aX} {orc:List (Nat×Bool)}
theorem CJ {ρ ρ':Operand->Option AV}:∀{l:List Operand},(∀x∈l,ρ x=ρ' x)->fh ρ l=fh ρ' l
 |[],_=>rfl
 |x::l,h=>by
  have e:fh ρ l=fh ρ' l:=CJ fun y hy=>h y (List.mem_cons_of_mem _ hy)
  simp only[fh,h x (by simp),e]
theorem Db {ρ ρ':Operand->Option AV}:∀{l:List (Nat×Operand)},(∀x∈l,ρ x.2=ρ' x.2)->kj ρ l=kj ρ' l
 |[],_=>rfl
 |(i,x)::l,h=>by
  have e:kj ρ l=kj ρ' l:=Db fun y hy=>h y (List.mem_cons_of_mem _ hy)
  simp only[kj,h (i,x) (by simp),e]
theorem PI {ρ ρ':Operand->Option AV}:∀{l:List Operand},(∀x∈l,ρ x=ρ' x)->nh ρ l=nh ρ' l
 |[],_=>rfl
 |x::l,h=>by
  have e:nh ρ l=nh ρ' l:=PI fun y hy=>h y (List.mem_cons_of_mem _ hy)
  simp only[nh,h x (by simp),e]
theorem aiV {ρ ρ':Operand->Option AV} {op:Op} (h:∀x∈op.operands.toList,ρ x=ρ' x):tf ρ op=tf ρ' op:=by
 have e:=PI h
 unfold tf
 split
 ·rfl
 ·cases op<;>simp only[Ip]<;>try exact e
  case fieldAddr t x i hmv=>
   rw[h x (by simp[Op.operands])]
   split
   ·rfl
   ·exact e
  case indexAddr t x i hmv=>
   rw[h x (by simp[Op.operands])]
   split
   ·rfl
   ·exact e
theorem U7 {ρ ρ':Operand->Option AV} {op:Op} (h:∀x∈op.operands.toList,ρ x=ρ' x):tJ ρ op=tJ ρ' op:=by
 cases op<;>try rfl
 case call c=>
  obtain⟨callee,args,argTypes⟩:=c
  cases callee<;>try rfl
  case value f=>
   have:=h f (by simp[Op.operands,Call.operands])
   simp only[tJ,this]
theorem FM {ρ:Operand->Option AV} {x:Operand} {v:AV} {k:Nat} (hx:ρ x=some v) (hk:k∈v.keys):∀{l:List Operand},x∈l->k∈nh ρ l
 |y::l,h=>by
  simp only[List.mem_cons]at h
  simp only[nh]
  rcases h with rfl|h
  ·rw[hx];exact List.mem_append_left _ hk
  ·cases ρ y with
   |none=>exact FM hx hk h
   |some u=>exact List.mem_append_right _ (FM hx hk h)
theorem Zq {ρ:Operand->Option AV} {op:Op} {k:Nat} (h:k∈tJ ρ op):k∈tf ρ op:=by
 cases op<;>try exact absurd h List.not_mem_nil
 case call c=>
  obtain⟨callee,args,argTypes⟩:=c
  cases callee<;>try exact absurd h List.not_mem_nil
  case value f=>
   simp only[tJ]at h
   split at h
   ·rename_i g l hf
    exact FM hf h (by simp[Op.operands,Call.operands])
   ·exact absurd h List.not_mem_nil
theorem Nv {st st':aC}:∀{l:List Nat},(∀k∈l,look k st=look k st')->nj st l=nj st' l
 |[],_=>rfl
 |k::l,h=>by
  have e:nj st l=nj st' l:=Nv fun j hj=>h j (List.mem_cons_of_mem _ hj)
  simp only[nj,h k (by simp),e]
theorem Lm {st:aC} {ρ:Operand->Option AV} {op:Op}:nA st ρ op=tf ρ op++nj st (tJ ρ op):=by
 unfold nA
 split
 ·rename_i h;rw[h,List.append_nil]
 ·rename_i h;rw[h]
theorem ZQ {st st':aC} {ρ ρ':Operand->Option AV} {op:Op} (h:∀x∈op.operands.toList,ρ x=ρ' x) (hk:∀k∈nA st ρ op,look k st=look k st'):nA st ρ op=nA st' ρ' op:=by
 rw[Lm]at hk ⊢
 rw[Lm,<-aiV h,<-U7 h,Nv fun k hk'=>hk k (List.mem_append_left _ (Zq hk'))]
theorem wj {K:Nat} {ρ ρ':Operand->Option AV} {st:aC} {op:Op} (h:∀x∈op.operands.toList,ρ x=ρ' x):fH T Γ K ρ st op=fH T Γ K ρ' st op:=by
 cases op<;>simp only[Op.operands]at h<;>simp only[fH]
 case move x=>rw[h x (by simp)]
 case assign x=>rw[h x (by simp)]
 case pick a b c=>rw[h a (by simp),h b (by simp),h c (by simp)]
 case box t x=>rw[h x (by simp)]
 case build t ps=>rw[Db fun p hp=>h p.2 (by simp;exact⟨p.1,by simpa using hp⟩)]
 case buildSlice t n ps=>rw[Db fun p hp=>h p.2 (by simp;exact⟨p.1,by simpa using hp⟩)]
 case load t a=>rw[h a (by simp)]
 case store t a x=>rw[h a (by simp),h x (by simp)]
 case nilCheck x=>rw[h x (by simp)]
 case binOp o t x y u=>rw[h x (by simp),h y (by simp)]
 case unOp o t x=>rw[h x (by simp)]
 case convert a b x=>rw[h x (by simp)]
 case sliceToArrayPointer t x=>rw[h x (by simp)]
 case makeFunc f a b=>
  have e:fh ρ b.toList=fh ρ' b.toList:=CJ fun x hx=>h x (by simp at hx ⊢;exact .inr hx)
  cases f<;>simp only[e]
 case makeSlice t a b=>rw[h a (by simp),h b (by simp)]
 case slice t x lo hi mx=>
  have e1:∀d,cI ρ d lo=cI ρ' d lo:=fun d=>by
   cases lo with
   |none=>rfl
   |some y=>simp only[cI,h y (by simp)]
  have e2:∀d,cI ρ d hi=cI ρ' d hi:=fun d=>by
   cases hi with
   |none=>rfl
   |some y=>simp only[cI,h y (by simp)]
  have e3:∀d,cI ρ d mx=cI ρ' d mx:=fun d=>by
   cases mx with
   |none=>rfl
   |some y=>simp only[cI,h y (by simp)]
  simp only[h x (by simp),e1,e2,e3]
 case fieldAddr t x i=>rw[h x (by simp)]
 case field t x i=>rw[h x (by simp)]
 case indexAddr t x i=>rw[h x (by simp),h i (by simp)]
 case index t x i=>rw[h x (by simp),h i (by simp)]
 case extract x i=>rw[h x (by simp)]
 case call c=>
  have ha:∀x∈c.args.toList,ρ x=ρ' x:=fun x hx=>h x (by simp[Call.operands];right;simpa using hx)
  obtain⟨callee,args,argTypes⟩:=c
  cases callee with
  |value f=>simp only[kz,CJ ha,h f (by simp[Call.operands])]
  |invoke r m=>simp[kz]
  |builtin b=>cases b<;>simp only[kz,CJ ha]
theorem uy {ρ ρ':Operand->Option AV} {d:Int} {x:Option Operand} (h:∀y,x=some y->ρ y=ρ' y):cI ρ d x=cI ρ' d x:=by
 cases x with
 |none=>rfl
 |some y=>simp only[cI,h y rfl]
theorem aip {ρ ρ':Operand->Option AV} {st:aC} {op:Op} (h:∀x∈op.operands.toList,ρ x=ρ' x):uI T ρ st op=uI T ρ' st op:=by
 cases op<;>simp only[uI]
 case load t a=>rw[h a (by simp[Op.operands])]
 case store t a x=>rw[h a (by simp[Op.operands])]
 case indexAddr t x ix=>rw[h x (by simp[Op.operands]),h ix (by simp[Op.operands])]
 case index t x ix=>rw[h ix (by simp[Op.operands])]
 case slice t x lo hi mx=>
  rw[h x (by simp[Op.operands])]
  have e1:∀d,cI ρ d lo=cI ρ' d lo:=fun d=>uy fun y hy=>h y (by simp[Op.operands,hy])
  have e2:∀d,cI ρ d hi=cI ρ' d hi:=fun d=>uy fun y hy=>h y (by simp[Op.operands,hy])
  have e3:∀d,cI ρ d mx=cI ρ' d mx:=fun d=>uy fun y hy=>h y (by simp[Op.operands,hy])
  simp only[e1,e2,e3]
theorem ae3 {ρ ρ':Operand->Option AV} {op:Op} (h:∀x∈op.operands.toList,ρ x=ρ' x):uX T ρ op=uX T ρ' op:=by
 cases op<;>simp only[uX]
 case binOp o t x y u=>rw[h x (by simp[Op.operands]),h y (by simp[Op.operands])]
 case convert s d x=>rw[h x (by simp[Op.operands])]
theorem My {K:Nat} {ρ ρ':Operand->Option AV} {st:aC} {op:Op} (h:∀x∈op.operands.toList,ρ x=ρ' x):lM T Γ K ρ st op=lM T Γ K ρ' st op:=by
 have h1:rz T ρ op=rz T ρ' op:=by
  cases op<;>simp only[rz]
  case binOp o t x y u=>rw[h x (by simp[Op.operands]),h y (by simp[Op.operands])]
 have h2:rm T Γ K (eP ρ) st op=rm T Γ K (eP ρ') st op:=by
  have e:∀x∈op.operands.toList,eP ρ x=eP ρ' x:=fun x hx=>by simp only[eP,h x hx]
  simp only[rm,wj e,aip e,ae3 e]
 have h3:qL T st ρ op=qL T st ρ' op:=by
  cases op<;>simp only[qL]
  case binOp o t x y u=>rw[h x (by simp[Op.operands]),h y (by simp[Op.operands])]
  case convert s d x=>rw[h x (by simp[Op.operands])]
  case index t x ix=>
   have e:=h ix (by simp[Op.operands])
   cases x<;>(try rfl)
   case const v=>cases v<;>(try rfl);simp only[e]
 have e:∀x∈op.operands.toList,eP ρ x=eP ρ' x:=fun x hx=>by simp only[eP,h x hx]
 have h4:mJ T Γ K ρ st op=mJ T Γ K ρ' st op:=by
  cases op<;>simp only[mJ]
  case makeSlice t a b=>rw[wj e,e b (by simp[Op.operands])]
  case slice t x lo hi mx=>
   have e1:∀d,cI ρ d lo=cI ρ' d lo:=fun d=>uy fun y hy=>h y (by simp[Op.operands,hy])
   have e2:∀d,cI ρ d hi=cI ρ' d hi:=fun d=>uy fun y hy=>h y (by simp[Op.operands,hy])
   have e3:∀d,cI ρ d mx=cI ρ' d mx:=fun d=>uy fun y hy=>h y (by simp[Op.operands,hy])
   cases mx with
   |some m=>
    simp only[mJ]
    rw[e x (by simp[Op.operands])]
    simp only[e1,e2,e3]
   |none=>
    simp only[mJ]
    rw[h x (by simp[Op.operands])]
    simp only[e1,e2]
  case call c=>
   have hc:kz T Γ K ρ st c=kz T Γ K ρ' st c:=wj (op:=.call c) h
   have hcn:kz T Γ K (eP ρ) st c=kz T Γ K (eP ρ') st c:=wj (op:=.call c) e
   have ha:∀x∈c.args.toList,ρ x=ρ' x:=fun x hx=>h x (by simp[Op.operands,Call.operands];right;simpa using hx)
   have e1:∀x,ρ x=ρ' x->eP ρ x=eP ρ' x:=fun x hx=>by simp only[eP,hx]
   rw[hc,hcn]
   obtain⟨callee,args,argTypes⟩:=c
   cases callee with
   |value f=>rfl
   |invoke r m=>rfl
   |builtin b=>
    cases b<;>try rfl
    all_goals
     simp only at ha ⊢
     generalize args.toList=l at ha ⊢
     cases argTypes[0]?<;>try rfl
     all_goals (try (cases argTypes[1]?<;>try rfl))
     all_goals
      match l,ha with
      |[],_=>rfl
      |[a],ha=>first|rfl|simp only[ha a (by simp)]
      |[a,b],ha=>first|rfl|simp only[ha a (by simp),e1 b (ha b (by simp))]
      |_::_::_::_,_=>rfl
 unfold lM
 rw[h1,h2,h3,h4,wj h]
theorem QH {st st':aC}:∀{ks:List Nat},(∀k∈ks,look k st=look k st')->pick st ks=pick st' ks
 |[],_=>rfl
 |k::ks,h=>by
  have e:pick st ks=pick st' ks:=QH fun j hj=>h j (List.mem_cons_of_mem _ hj)
  simp only[pick,h k (by simp),e]
theorem abF {opsL:List Oper} {s s':aK} {i:Nat} {o:Oper} {r:Rec} (h:nQ T Γ orc opsL s i o=some r) (hsl:∀t∈BP opsL o,look t s.cQ=look t s'.cQ)
  (hk:∀k∈r.asks,look k s.store=look k s'.store) (hn:s.next=s'.next):nQ T Γ orc opsL s' i o=some r:=by
 have hw:qj opsL s.cQ o=qj opsL s'.cQ o:=by
  unfold qj
  cases hg:o.guard with
  |none=>rfl
  |some gw=>
   obtain⟨g,want⟩:=gw
   simp only
   cases hp:opsL[g]? with
   |none=>rfl
   |some p=>
    simp only
    cases hd:p.dst with
    |none=>rfl
    |some d=>
     simp only
     rw[hsl d (by simp[BP,hg,hp,hd])]
 have hρ:∀x∈o.op.operands.toList,s.iw x=s'.iw x:=fun x hx=>by
  cases x with
  |tmp t=>exact hsl t (by
    simp only[BP,List.mem_append,List.mem_filterMap]
    exact .inl ⟨_,hx,rfl⟩)
  |_=>rfl
 unfold nQ at h ⊢
 simp only[force_eq]at h ⊢
 rw[<-hw]
 cases hb:qj opsL s.cQ o with
 |none=>rw[hb]at h;simp at h
 |some b=>
  rw[hb]at h
  cases b with
  |false=>exact h
  |true=>
   simp only at h ⊢
   rw[<-hn]
   have hasks:r.asks=nA s.store s.iw o.op:=by
    split at h
    ·simp only[ay]at h;subst h;rfl
    ·split at h
     ·simp at h
     ·split at h
      ·simp only[ay]at h;subst h;rfl
      ·simp at h
   rw[hasks]at hk
   rw[<-ZQ hρ hk,<-QH hk,<-My hρ]
   have:∀st',lM T Γ (s.next+cT*i) s'.iw st' o.op=lM T Γ (s.next+cT*i) s.iw st' o.op:=fun st'=>(My hρ).symm
   simp only[this]
   exact h
end locality
def eZ {α:Type} (W:Nat->Option α) (S:Nat->Bool):Nat->Option α
 |0=>none
 |n+1=>if S n then(match W n with
  |some v=>some v
  |none=>eZ W S n)else eZ W S n
theorem pC {α:Type} {W:Nat->Option α} {S S':Nat->Bool}:∀{n:Nat},(∀j,j<n->W j≠none->S j=S' j)->eZ W S n=eZ W S' n
 |0,_=>rfl
 |n+1,h=>by
  have ih:=pC (W:=W) (S:=S) (S':=S') (n:=n) fun j hj=>h j aa
  simp only[eZ]
  cases hW:W n with
  |none=>cases S n<;>cases S' n<;>simp[ih]
  |some v=>rw[h n aa (by simp[hW]),ih]
theorem EL {α:Type} {W:Nat->Option α} {S:Nat->Bool} {i:Nat} (hi:S i=false):∀{n:Nat},i<n->(∀j,i<j->j<n->S j=true->W j=none)->
  eZ W (fun j=>S j||j==i) n=match W i with
   |some v=>some v
   |none=>eZ W S n
 |0,h,_=>aa
 |n+1,h,hl=>by
  simp only[eZ]
  by_cases hn:n=i
  ·subst hn
   have:eZ W (fun j=>S j||j==n) n=eZ W S n:=pC fun j hj _=>by
    have:(j==n)=false:=by simp;omega
    simp[this]
   simp[hi,this]
  ·have ih:=EL (W:=W) hi (n:=n) aa fun j h1 h2=>hl j h1 aa
   have hni:(n==i)=false:=by simpa using hn
   simp only[hni,Bool.or_false]
   cases hS:S n with
   |false=>simpa [hS]using ih
   |true=>
    have:=hl n aa aa hS
    simp[this,ih]
def j6 (S:Nat->Bool):Nat->Nat
 |0=>0
 |n+1=>j6 S n+if S n then 0 else 1
theorem PS {S:Nat->Bool}:∀{n:Nat},j6 S n=0->∀i,i<n->S i=true
 |0,_,i,h=>aa
 |n+1,h,i,hi=>by
  simp only[j6]at h
  by_cases hn:i=n
  ·subst hn
   cases hs:S i with
   |true=>rfl
   |false=>rw[hs]at h;simp at h
  ·exact PS (n:=n) aa i aa
theorem Kl {S:Nat->Bool} {i:Nat} (hi:S i=false):∀{n:Nat},i<n->j6 (fun j=>S j||j==i) n+1=j6 S n
 |0,h=>aa
 |n+1,h=>by
  simp only[j6]
  by_cases hn:n=i
  ·subst hn
   have:j6 (fun j=>S j||j==n) n=j6 S n:=by
    have:∀m,m<=n->j6 (fun j=>S j||j==n) m=j6 S m:=by
     intro m
     induction m with
     |zero=>intro _;rfl
     |succ m ih=>
      intro hm
      have h1:(m==n)=false:=by simp;omega
      simp only[j6,h1,Bool.or_false,ih aa]
    exact this n bz
   simp[hi,this]
  ·have ih:=Kl (S:=S) hi (n:=n) aa
   have hni:(n==i)=false:=by simpa using hn
   simp only[hni,Bool.or_false]
   omega
theorem ag5 {n:Nat}:j6 (fun _=>false) n=n:=by
 induction n with
 |zero=>rfl
 |succ n ih=>simp[j6,ih]
theorem ur {a b:List Nat} {x:Nat} (ha:x∈a) (hb:x∈b):meet a b=true:=by
 simp only[meet,List.any_eq_true]
 exact⟨x,ha,x,hb,by simp⟩
def Down (opsL:List Oper) (S:Nat->Bool):Prop:=∀(i:Nat) (o:Oper),opsL[i]?=some o->S i=true->∀e∈o.after.toList,Region.binds .any e=true->S e.on=true
theorem Km {acc:List Nat} {j:Nat}:∀(es:List Edge) (m:Nat),(es.foldl (fun m e=>if Region.binds .any e then m|||(1<<<e.on)|||acc.getD e.on 0 else m) m).testBit j=true->
  m.testBit j=true\/∃e∈es,Region.binds .any e=true/\(j=e.on\/(acc.getD e.on 0).testBit j=true)
 |[],m,h=>.inl h
 |e::es,m,h=>by
  simp only[List.foldl_cons]at h
  rcases Km es _ h with h1|⟨e',h1,h2,h3⟩
  ·split at h1
   ·rename_i hb
    simp only[Nat.testBit_or,Bool.or_eq_true]at h1
    rcases h1 with(h1|h1)|h1
    ·exact .inl h1
    ·refine .inr ⟨e,by simp,hb,.inl ?_⟩
     simp only[Nat.one_shiftLeft,Nat.testBit_two_pow,bk]at h1
     exact h1.symm
    ·exact .inr ⟨e,by simp,hb,.inr h1⟩
   ·exact .inl h1
  ·exact .inr ⟨e',by simp[h1],h2,h3⟩
theorem JL {opsL:List Oper} {S:Nat->Bool} (hd:Down opsL S):∀(l done:List Oper) (acc:List Nat),opsL=done++l->acc.length=done.length->
  (∀(i m:Nat) (o:Oper),acc[i]?=some m->opsL[i]?=some o->(∀e∈o.after.toList,Region.binds .any e=true->S e.on=true)->∀j,m.testBit j=true->S j=true)->
  (qI l acc).length=opsL.length/\∀(i m:Nat) (o:Oper),(qI l acc)[i]?=some m->opsL[i]?=some o->(∀e∈o.after.toList,Region.binds .any e=true->S e.on=true)->∀j,m.testBit j=true->S j=true
 |[],done,acc,he,hl,h=>by simp only[qI];exact⟨by rw[hl,he];simp,h⟩
 |o::l,done,acc,he,hl,h=>by
  simp only[qI]
  refine JL hd l (done++[o]) _ (by simp[he]) (by simp[hl]) fun i m p hi hp hedge j hj=>?_
  by_cases hlt:i<acc.length
  ·rw[List.getElem?_append_left hlt]at hi
   exact h i m p hi hp hedge j hj
  ·have hil:i<(acc++[o.after.toList.foldl (fun m e=>if Region.binds .any e then m|||(1<<<e.on)|||acc.getD e.on 0 else m) 0]).length:=(List.getElem?_eq_some_iff.1 hi).1
   simp only[List.length_append,List.length_cons,List.length_nil]at hil
   have hi':i=acc.length:=aa
   subst hi'
   simp only[List.getElem?_concat_length,ay]at hi
   subst hi
   have hpo:p=o:=by
    rw[he,hl]at hp
    simpa using hp.symm
   subst hpo
   rcases Km _ _ hj with h1|⟨e,h1,h2,h3⟩
   ·simp at h1
   ·rcases h3 with rfl|h3
    ·exact hedge e h1 h2
    ·rw[List.getD_eq_getElem?_getD]at h3
     cases hm:acc[e.on]? with
     |none=>rw[hm]at h3;simp at h3
     |some m'=>
      rw[hm]at h3
      have hlt2:=(List.getElem?_eq_some_iff.1 hm).1
      have ho:∃p',opsL[e.on]?=some p':=by
       rw[he]
       exact⟨_,List.getElem?_eq_getElem (by simp;omega)⟩
      obtain⟨p',hp'⟩:=ho
      exact h e.on m' p' hm hp' (hd e.on p' hp' (hedge e h1 h2)) j h3
theorem xI {ops:List Oper}:∀{l:List Oper} {rs:List Rec} {as':List Nat} {i:Nat} {o:Oper} {r:Rec} {a:Nat},l[i]?=some o->rs[i]?=some r->as'[i]?=some a->
  (uQ l rs as' ops)[i]?=some (l8 ops o r,a)
 |o'::l,r'::rs,a'::as',0,o,r,a,h1,h2,h3=>by simp at h1 h2 h3;subst h1;subst h2;subst h3;simp[uQ]
 |o'::l,r'::rs,a'::as',i+1,o,r,a,h1,h2,h3=>by
  simp only[uQ,List.getElem?_cons_succ]
  exact xI (by simpa using h1) (by simpa using h2) (by simpa using h3)
 |[],_,_,i,o,r,a,h1,_,_=>by simp at h1
 |_::_,[],_,i,o,r,a,_,h2,_=>by simp at h2
 |_::_,_::_,[],i,o,r,a,_,_,h3=>by simp at h3
theorem Ih {i:Nat} {t:Touch}:∀{l:List (Touch×Nat)} {j:Nat} {u:Touch} {a:Nat},yl i t l=true->l[j]?=some (u,a)->t.mZ u=true->a.testBit i=true
 |[],j,u,a,_,h,_=>by simp at h
 |(u',a')::l,0,u,a,h,hj,hc=>by
  simp at hj
  obtain⟨rfl,rfl⟩:=hj
  simp only[yl,Bool.and_eq_true,Bool.or_eq_true,Bool.not_eq_true']at h
  rcases h.1 with h1|h1
  ·rw[hc]at h1;simp at h1
  ·exact h1
 |(u',a')::l,j+1,u,a,h,hj,hc=>by
  simp only[yl,Bool.and_eq_true]at h
  exact Ih h.2 (by simpa using hj) hc
theorem Dj:∀{l:List (Touch×Nat)} {b i j:Nat} {t u:Touch} {a a':Nat},vT l b=true->l[i]?=some (t,a)->l[j]?=some (u,a')->i<j->t.mZ u=true->a'.testBit (b+i)=true
 |[],b,i,j,t,u,a,a',_,h,_,_,_=>by simp at h
 |(t',x)::l,b,0,j,t,u,a,a',h,hi,hj,hij,hc=>by
  simp at hi
  obtain⟨rfl,rfl⟩:=hi
  simp only[vT,Bool.and_eq_true]at h
  cases j with
  |zero=>omega
  |succ j=>simpa using Ih h.1 (by simpa using hj) hc
 |(t',x)::l,b,i+1,j,t,u,a,a',h,hi,hj,hij,hc=>by
  simp only[vT,Bool.and_eq_true]at h
  cases j with
  |zero=>omega
  |succ j=>
   have:=Dj h.2 (by simpa using hi) (by simpa using hj) aa hc
   have e:b+1+i=b+(i+1):=aa
   rwa [e]at this
theorem Nx:∀{l:List Oper} {b i:Nat} {o:Oper},vC l b=true->l[i]?=some o->∀e∈o.after.toList,Region.binds .any e=true->e.on<b+i
 |[],b,i,o,_,h,_,_,_=>by simp at h
 |o'::l,b,0,o,h,hi,e,he,hb=>by
  simp at hi
  subst hi
  simp only[vC,Bool.and_eq_true,List.all_eq_true,Bool.or_eq_true,Bool.not_eq_true',bk]at h
  rcases h.1 e he with h1|h1
  ·rw[hb]at h1;simp at h1
  ·simpa using h1
 |o'::l,b,i+1,o,h,hi,e,he,hb=>by
  simp only[vC,Bool.and_eq_true]at h
  have:=Nx h.2 (by simpa using hi) e he hb
  omega
end Go.Am
namespace Go.Am
open AV
theorem GK {α:Type} {W:Nat->Option α}:∀{n:Nat},eZ W (fun _=>true) (n+1)=match eZ (fun q=>W (q+1)) (fun _=>true) n with
  |some v=>some v
  |none=>W 0
 |0=>by simp only[eZ,if_true];cases W 0<;>rfl
 |n+1=>by
  have ih:=GK (W:=W) (n:=n)
  rw[eZ,if_pos rfl,ih]
  simp only[eZ,if_true]
  cases W (n+1)<;>rfl
def jP (l:List Oper) (rs:List Rec) (t:Nat) (q:Nat):Option AV:=
 match l[q]?,rs[q]? with
 |some o,some r=>if o.dst=some t then some r.res.val else none
 |_,_=>none
def jV (l:List Oper) (rs:List Rec) (k:Nat) (q:Nat):Option (Option au):=
 match l[q]?,rs[q]? with
 |some _,some r=>dm r.res.cu k
 |_,_=>none
def orElse {α:Type} (a:Option α) (b:Option α):Option α:=match a with
 |some v=>some v
 |none=>b
def vQ (a:Option (Option au)) (b:Option au):Option au:=match a with
 |some r=>r
 |none=>b
section trace
variable {T:Types} {Γ:aX} {orc:List (Nat×Bool)}
theorem DS {opsL:List Oper}:∀(l:List Oper) (i:Nat) (s s':aK) (need:List Prop) (rs:List Rec),lF T Γ orc opsL l i s=some (s',need,rs)->
  rs.length=l.length/\(az need->∀r∈rs,r.res.need)/\s'.next=s.next/\
  (∀t,look t s'.cQ=orElse (eZ (jP l rs t) (fun _=>true) l.length) (look t s.cQ))/\(∀k,look k s'.store=vQ (eZ (jV l rs k) (fun _=>true) l.length) (look k s.store))/\
  ∀(p:Nat) (o:Oper) (r:Rec),l[p]?=some o->rs[p]?=some r->∃sp:aK,nQ T Γ orc opsL sp (i+p) o=some r/\sp.next=s.next/\
   (∀t,look t sp.cQ=orElse (eZ (jP l rs t) (fun _=>true) p) (look t s.cQ))/\(∀k,look k sp.store=vQ (eZ (jV l rs k) (fun _=>true) p) (look k s.store))
 |[],i,s,s',need,rs,h=>by
  simp only[lF,ay,Prod.mk.injEq]at h
  obtain⟨rfl,rfl,rfl⟩:=h
  exact⟨rfl,fun _ r hr=>by simp at hr,rfl,fun t=>rfl,fun k=>rfl,fun p o r hp=>by simp at hp⟩
 |o::l,i,s,s',need,rs,h=>by
  simp only[lF]at h
  cases hr:nQ T Γ orc opsL s i o with
  |none=>rw[hr]at h;simp at h
  |some r=>
   rw[hr]at h
   simp only at h
   cases ht:lF T Γ orc opsL l (i+1) (oE s o r.res)with
   |none=>rw[ht]at h;simp at h
   |some q=>
    obtain⟨s1,n1,rs1⟩:=q
    rw[ht]at h
    simp only[ay,Prod.mk.injEq]at h
    obtain⟨rfl,rfl,rfl⟩:=h
    obtain⟨h1,h2,h3,h4,h5,h6⟩:=DS l (i+1) (oE s o r.res) s1 n1 rs1 ht
    have eS:∀t,(fun q=>jP (o::l) (r::rs1) t (q+1))=jP l rs1 t:=fun t=>by funext q;simp[jP]
    have eK:∀k,(fun q=>jV (o::l) (r::rs1) k (q+1))=jV l rs1 k:=fun k=>by funext q;simp[jV]
    have gS:∀t n,orElse (eZ (jP l rs1 t) (fun _=>true) n) (look t (oE s o r.res).cQ)=orElse (eZ (jP (o::l) (r::rs1) t) (fun _=>true) (n+1)) (look t s.cQ):=fun t n=>by
     rw[GK,eS]
     cases eZ (jP l rs1 t) (fun _=>true) n with
     |some v=>rfl
     |none=>
      simp only[orElse,oE,yQ,jP,List.getElem?_cons_zero]
      split<;>rfl
    have gK:∀k n,vQ (eZ (jV l rs1 k) (fun _=>true) n) (look k (oE s o r.res).store)=vQ (eZ (jV (o::l) (r::rs1) k) (fun _=>true) (n+1)) (look k s.store):=fun k n=>by
     rw[GK,eK]
     cases eZ (jV l rs1 k) (fun _=>true) n with
     |some v=>rfl
     |none=>
      simp only[vQ,oE,lN,jV,List.getElem?_cons_zero]
      cases dm r.res.cu k<;>rfl
    refine⟨by simp[h1],fun hn r' hr'=>?_,h3,fun t=>?_,fun k=>?_,fun p o' r' hp hrp=>?_⟩
    ·rcases List.mem_cons.1 hr' with rfl|hr'
     ·exact(fD.1 hn).1
     ·exact h2 (fD.1 hn).2 r' hr'
    ·rw[h4 t,gS];rfl
    ·rw[h5 k,gK];rfl
    ·cases p with
     |zero=>
      simp only[List.getElem?_cons_zero,ay]at hp hrp
      subst hp;subst hrp
      exact⟨s,hr,rfl,fun t=>rfl,fun k=>rfl⟩
     |succ p=>
      obtain⟨sp,a1,a2,a3,a4⟩:=h6 p o' r' (by simpa using hp) (by simpa using hrp)
      refine⟨sp,by rw[<-a1];congr 1;omega,a2,fun t=>?_,fun k=>?_⟩
      ·rw[a3 t,gS]
      ·rw[a4 k,gK]
end trace
section region
variable {c:Ctx} {P:Program} {T:Types} (hT:fu P T) {Γ:aX} (hΓ:bq P Γ) {orc:List (Nat×Bool)}
theorem bF.ext {st st':aC} {D:Nat->Prop} {β:aY} {w:World} (h:bF c st D β w) (he:∀k,look k st=look k st'):bF c st' D β w/\aO c st' β=aO c st β:=by
 have hM:aO c st' β=aO c st β:=by
  funext b
  simp only[aO,he]
 refine⟨?_,hM⟩
 refine {h with obj:=fun k o hk x hx=>?_,dS:=fun k o hk=>h.dS k o (by rw[he];exact hk),inj:=fun k k' o o' b N N' h1 h2=>?_,new:=fun k o b N h1=>?_}
 ·rw[hM];exact h.obj k o (by rw[he];exact hk) x hx
 ·exact h.inj k k' o o' b N N' (by rw[he];exact h1) (by rw[he];exact h2)
 ·exact h.new k o b N (by rw[he];exact h1)
theorem Rel.ext {nt:Nat} {D D':Nat->Prop} {sl sl':List (Nat×AV)} {st st':aC} {a:Act} {w:World} (h:Rel c nt D sl st a w) (h1:∀t,look t sl=look t sl') (h2:∀k,look k st=look k st')
  (hD:∀k,D k->D' k):Rel c nt D' sl' st' a w:=by
 obtain⟨a1,a2,β,a3,a4⟩:=h
 obtain⟨b1,b2⟩:=a3.ext h2
 refine⟨a1,a2,β,b1.mH hD,fun t v ht=>?_⟩
 rw[b2]
 exact a4 t v (by rw[h1];exact ht)
theorem Mp {ops:Array Oper} {i:Nat} {o:Oper} (ho:ops[i]?=some o) {a:Act} {w:World} {K:Act->World->Prop} {Q:Exit->Act->World->Prop}
  (h:if Region.wanted o (yielded ops a.tmps)then o.wpIn (iK c.ro) 3 P a w K Q else(∀f,o.about P w a.eval=some f->(iK c.ro).fn f)/\K (a.put o.dst undef) w):wpOpIn (iK c.ro) 3 P ops Q i K a w:=by
 unfold wpOpIn
 simp only[ho]
 split
 ·rename_i hw;rw[if_pos hw]at h;exact h
 ·rename_i hw;rw[if_neg hw]at h;exact h
def OV (N0 n:Nat) (S:Nat->Bool) (k:Nat):Prop:=k<N0\/∃i,i<n/\S i=true/\N0+cT*i<=k/\k<N0+cT*i+cT
theorem abb {N0 i j k:Nat} (h1:N0+cT*i<=k) (h2:k<N0+cT*i+cT) (h3:N0+cT*j<=k) (h4:k<N0+cT*j+cT):i=j:=by
 simp only[cT]at*
 omega
include hT hΓ in
theorem KL {ops:Array Oper} {nt N0:Nat} (hdst:∀o∈ops.toList,∀d,o.dst=some d->d<nt) {Q:Exit->Act->World->Prop}:
  ∀(l done:List Oper) (s s':aK) (need:List Prop) (rs:List Rec) (a:Act) (w:World),ops.toList=done++l->s.next=N0->lF T Γ orc ops.toList l done.length s=some (s',need,rs)->az need->
   Rel c nt (fun k=>k<N0+cT*done.length) s.cQ s.store a w->
   (∀a' w',Rel c nt (fun k=>k<N0+cT*ops.size) s'.cQ s'.store a' w'->Q .normal a' w')->wpOpsIn (iK c.ro) 3 P ops Q (List.range' done.length l.length) a w
 |[],done,s,s',need,rs,a,w,hops,hN,hr,hn,hrel,hQ=>by
  simp only[lF,ay,Prod.mk.injEq]at hr
  obtain⟨rfl,rfl,rfl⟩:=hr
  simp only[List.length_nil,List.range'_zero,wpOpsIn]
  refine hQ a w (hrel.ext (fun _=>rfl) (fun _=>rfl) fun k hk=>?_)
  have:ops.size=done.length:=by rw[<-Array.length_toList,hops];simp
  rw[this];exact hk
 |o::l,done,s,s',need,rs,a,w,hops,hN,hr,hn,hrel,hQ=>by
  simp only[lF]at hr
  cases hrec:nQ T Γ orc ops.toList s done.length o with
  |none=>rw[hrec]at hr;simp at hr
  |some r=>
   rw[hrec]at hr
   simp only at hr
   cases ht:lF T Γ orc ops.toList l (done.length+1) (oE s o r.res)with
   |none=>rw[ht]at hr;simp at hr
   |some q=>
    obtain⟨s1,n1,rs1⟩:=q
    rw[ht]at hr
    simp only[ay,Prod.mk.injEq]at hr
    obtain⟨rfl,rfl,rfl⟩:=hr
    rw[List.length_cons,List.range'_succ,wpOpsIn_cons]
    have ho:ops[done.length]?=some o:=by rw[<-Array.getElem?_toList,hops];simp
    refine Mp ho (NT (D':=fun k=>k<N0+cT*(done++[o]).length) hT hΓ (N0:=s.next) (i:=done.length) hrel (by cases s;exact hrec) (fD.1 hn).1
     (fun d hd=>hdst o (by rw[hops];simp) d hd) (fun k hk=>?_) (fun k h1 h2=>?_) fun a' w' hrel'=>?_)
    ·simp only[List.length_append,List.length_cons,List.length_nil,cT]at hk ⊢;omega
    ·simp only[List.length_append,List.length_cons,List.length_nil,cT]at h1 h2 ⊢;omega
    ·have:=KL hdst l (done++[o]) (oE s o r.res) s1 n1 rs1 a' w' (by simp[hops]) hN (by simpa using ht) (fD.1 hn).2 hrel' hQ
     simpa using this
theorem GW {α:Type} {W:Nat->Option α} {i:Nat}:∀{n:Nat},i<=n->eZ W (fun j=>decide (j<i)) n=eZ W (fun _=>true) i
 |0,h=>by
    have:i=0:=aa
    subst this;rfl
 |n+1,h=>by
  by_cases hn:i=n+1
  ·subst hn
   exact pC fun j hj _=>by simpa using hj
  ·have ih:=GW (W:=W) (i:=i) (n:=n) aa
   have:decide (n<i)=false:=by simp;omega
   simp only[eZ,this,Bool.false_eq_true,if_false]
   exact ih
theorem Ca {k:Nat}:∀{cu:List (Nat×Option au)} {r:Option au},dm cu k=some r->k∈cu.map (·.1)
 |[],r,h=>by simp[dm]at h
 |(j,o)::l,r,h=>by
  simp only[dm]at h
  cases he:dm l k with
  |some r'=>simp only[List.map_cons,List.mem_cons];exact .inr (Ca he)
  |none=>
   rw[he]at h
   simp only at h
   split at h
   ·rename_i hjk
    have:j=k:=by simpa using hjk
    simp[this]
   ·simp at h
theorem RH {l:Array Bool} {i j:Nat} (hi:i<l.size):(l.setIfInBounds i true).getD j false=(l.getD j false||j==i):=by
 simp only[Array.getD_eq_getD_getElem?,Array.getElem?_setIfInBounds]
 by_cases h:i=j
 ·subst h;simp[hi]
 ·have:(j==i)=false:=by simp;omega
  simp[h,this]
include hT hΓ in
theorem ahO {ops:Array Oper} {nt:Nat} (hdst:∀o∈ops.toList,∀d,o.dst=some d->d<nt) {Q:Exit->Act->World->Prop} {s s':aK} {need:List Prop} {rs:List Rec}
  (hrun:lF T Γ orc ops.toList ops.toList 0 s=some (s',need,rs)) (hneed:az need) (hE:vC ops.toList 0=true) (hA:vT (uQ ops.toList rs (qI ops.toList []) ops.toList) 0=true)
  (hQ:∀a' w',Rel c nt (fun k=>k<s.next+cT*ops.size) s'.cQ s'.store a' w'->Q .normal a' w') {a:Act} {w:World} (hrel:Rel c nt (fun k=>k<s.next) s.cQ s.store a w):
  wpAnyIn (iK c.ro) 3 P .any ops Q ops.size (Array.replicate ops.size false) a w:=by
 obtain⟨t1,t2,t3,t4,t5,t6⟩:=DS ops.toList 0 s s' need rs hrun
 have hsz:ops.toList.length=ops.size:=Array.length_toList
 -- the invariant
 let Inv:(Nat->Bool)->Act->World->Prop:=fun S a w=>∃sl st,(∀t,look t sl=orElse (eZ (jP ops.toList rs t) S ops.size) (look t s.cQ))/\
  (∀k,look k st=vQ (eZ (jV ops.toList rs k) S ops.size) (look k s.store))/\Rel c nt (OV s.next ops.size S) sl st a w
 have hend:∀(S:Nat->Bool) (a:Act) (w:World),(∀i,i<ops.size->S i=true)->Inv S a w->Q .normal a w:=by
  rintro S a w hall ⟨sl,st,h1,h2,h3⟩
  refine hQ a w (h3.ext (fun t=>?_) (fun k=>?_) fun k hk=>?_)
  ·rw[h1 t,t4 t,hsz]
   congr 1
   exact pC fun j hj _=>hall j hj
  ·rw[h2 k,t5 k,hsz]
   congr 1
   exact pC fun j hj _=>hall j hj
  ·rcases hk with hk|⟨i,hi,_,_,hk⟩
   ·simp only[cT]at*;omega
   ·simp only[cT]at*;omega
 have main:∀(fuel:Nat) (listed:Array Bool) (a:Act) (w:World),listed.size=ops.size->Down ops.toList (fun i=>listed.getD i false)->j6 (fun i=>listed.getD i false) ops.size<=fuel->
   Inv (fun i=>listed.getD i false) a w->wpAnyIn (iK c.ro) 3 P .any ops Q fuel listed a w:=by
  intro fuel
  induction fuel with
  |zero=>
   intro listed a w hl hd hlk hinv
   have hall:=PS (show j6 (fun i=>listed.getD i false) ops.size=0 by omega)
   refine⟨?_,hend _ a w hall hinv⟩
   simp only[Region.ready,List.filter_eq_nil_iff,List.mem_range,Bool.and_eq_true,Bool.not_eq_true',not_and]
   intro i hi h
   have:=hall i hi
   simp only[Array.getD_eq_getD_getElem?]at this h
   rw[Array.getElem?_eq_getElem aa]at this h
   simp at this h
   rw[this]at h;simp at h
  |succ fuel ih=>
   intro listed a w hl hd hlk hinv
   have hgd:∀i,i<ops.size->listed.getD i true=listed.getD i false:=fun i hi=>by
    simp only[Array.getD_eq_getD_getElem?]
    rw[Array.getElem?_eq_getElem aa];rfl
   have hready:∀i,i∈Region.ready .any ops listed↔i<ops.size/\listed.getD i false=false/\∀o,ops.toList[i]?=some o->∀e∈o.after.toList,Region.binds .any e=true->listed.getD e.on false=true:=fun i=>by
    simp only[Region.ready,List.mem_filter,List.mem_range,Bool.and_eq_true,Bool.not_eq_true']
    constructor
    ·rintro⟨h1,h2,h3⟩
     refine⟨h1,by rw[<-hgd i h1];exact h2,fun o ho e he hb=>?_⟩
     have ho':ops[i]?=some o:=by simpa using ho
     rw[ho']at h3
     simp only[Option.map_some,Option.getD_some,Array.all_eq_true_iff_forall_mem,Bool.or_eq_true,Bool.not_eq_true']at h3
     rcases h3 e (by simpa using he)with h4|h4
     ·rw[hb]at h4;simp at h4
     ·exact h4
    ·rintro⟨h1,h2,h3⟩
     refine⟨h1,by rw[hgd i h1];exact h2,?_⟩
     have ho':ops[i]?=some ops[i]:=Array.getElem?_eq_getElem h1
     rw[ho']
     simp only[Option.map_some,Option.getD_some,Array.all_eq_true_iff_forall_mem,Bool.or_eq_true,Bool.not_eq_true']
     intro e he
     cases hb:Region.binds .any e with
     |false=>exact .inl rfl
     |true=>exact .inr (h3 ops[i] (by simp[h1]) e (by simpa using he) hb)
   refine⟨fun hnil=>?_,fun i hi=>?_⟩
   ·refine hend _ a w (fun i=>?_) hinv
    induction i using Nat.strongRecOn with
    |_ i ihi=>
     intro hi
     cases hl':listed.getD i false with
     |true=>rfl
     |false=>
      have:i∈Region.ready .any ops listed:=(hready i).2 ⟨hi,hl',fun o ho e he hb=>by
       have hlt:=Nx hE ho e he hb
       exact ihi e.on aa aa⟩
      rw[hnil]at this
      simp at this
   ·obtain⟨h1,h2,h3⟩:=(hready i).1 hi
    have ho:ops.toList[i]?=some ops[i]:=by simp[h1]
    generalize ops[i]=o at ho
    obtain⟨r,hr⟩:∃r,rs[i]?=some r:=⟨_,List.getElem?_eq_getElem aa⟩
    obtain⟨sp,q1,q2,q3,q4⟩:=t6 i o r ho hr
    rw[Nat.zero_add]at q1
    have hi2:listed.getD i false=false:=h2
    have hanc:=JL hd ops.toList [] [] rfl rfl (fun i m o h=>by simp at h)
    -- order of what clashes
    have hclash:∀(j:Nat) (o':Oper) (r':Rec),ops.toList[j]?=some o'->rs[j]?=some r'->j≠i->
      ((l8 ops.toList o' r').mZ (l8 ops.toList o r)=true/\j<i\/(l8 ops.toList o r).mZ (l8 ops.toList o' r')=true/\i<j)->listed.getD j false=decide (j<i):=by
     intro j o' r' hj hrj hne hc
     have hai:∀q (o:Oper),ops.toList[q]?=some o->∃m,(qI ops.toList [])[q]?=some m:=fun q o hq=>
      ⟨_,List.getElem?_eq_getElem (by rw[hanc.1];exact(List.getElem?_eq_some_iff.1 hq).1)⟩
     obtain⟨mi,hmi⟩:=hai i o ho
     obtain⟨mj,hmj⟩:=hai j o' hj
     rcases hc with⟨hc,hlt⟩|⟨hc,hlt⟩
     ·have hb:=Dj hA (xI hj hrj hmj) (xI ho hr hmi) hlt hc
      rw[Nat.zero_add]at hb
      have:=hanc.2 i mi o hmi ho (h3 o ho) j hb
      simp only[hlt,decide_true];exact this
     ·have hb:=Dj hA (xI ho hr hmi) (xI hj hrj hmj) hlt hc
      rw[Nat.zero_add]at hb
      have:decide (j<i)=false:=by simp;omega
      rw[this]
      cases hS:listed.getD j false with
      |false=>rfl
      |true=>
       have:=hanc.2 j mj o' hmj hj (hd j o' hj hS) i hb
       simp only[hi2]at this
       simp at this
    obtain⟨sl,st,v1,v2,v3⟩:=hinv
    -- the operation HN here what it did in the order of the text
    have hloc:nQ T Γ orc ops.toList ⟨sl,st,s.next⟩ i o=some r:=by
     refine abF q1 (fun t ht=>?_) (fun k hk=>?_) q2
     ·rw[q3 t,v1 t]
      congr 1
      rw[<-GW (show i<=ops.size by omega)]
      refine pC fun j hj hW=>?_
      by_cases hji:j=i
      ·subst hji;simp only[hi2];simp
      ·unfold jP at hW
       cases hoj:ops.toList[j]? with
       |none=>simp[hoj]at hW
       |some o'=>
        cases hrj:rs[j]? with
        |none=>simp[hoj,hrj]at hW
        |some r'=>
         have hdj:o'.dst=some t:=by
          simp only[hoj,hrj]at hW
          by_cases hd:o'.dst=some t
          ·exact hd
          ·simp[hd]at hW
         refine(hclash j o' r' hoj hrj hji ?_).symm
         rcases Nat.lt_or_gt_of_ne hji with hlt|hgt
         ·refine .inl ⟨?_,hlt⟩
          simp only[Touch.mZ,l8,Bool.or_eq_true]
          exact .inl (.inl (.inl (.inl (.inl (ur (x:=t) (by simp[hdj]) ht)))))
         ·refine .inr ⟨?_,hgt⟩
          simp only[Touch.mZ,l8,Bool.or_eq_true]
          exact .inl (.inl (.inl (.inr (ur (x:=t) ht (by simp[hdj])))))
     ·rw[q4 k,v2 k]
      congr 1
      rw[<-GW (show i<=ops.size by omega)]
      refine pC fun j hj hW=>?_
      by_cases hji:j=i
      ·subst hji;simp only[hi2];simp
      ·unfold jV at hW
       cases hoj:ops.toList[j]? with
       |none=>simp[hoj]at hW
       |some o'=>
        cases hrj:rs[j]? with
        |none=>simp[hoj,hrj]at hW
        |some r'=>
         have hkj:k∈r'.res.cu.map (·.1):=by
          simp only[hoj,hrj]at hW
          cases he:dm r'.res.cu k with
          |none=>simp[he]at hW
          |some x=>exact Ca he
         refine(hclash j o' r' hoj hrj hji ?_).symm
         rcases Nat.lt_or_gt_of_ne hji with hlt|hgt
         ·refine .inl ⟨?_,hlt⟩
          simp only[Touch.mZ,l8,Bool.or_eq_true]
          exact .inl (.inl (.inr (ur (x:=k) hkj hk)))
         ·refine .inr ⟨?_,hgt⟩
          simp only[Touch.mZ,l8,Bool.or_eq_true]
          exact .inr (ur (x:=k) hk hkj)
    have hmem:r∈rs:=List.mem_of_getElem? hr
    refine Mp (by simpa using ho) (NT (D':=OV s.next ops.size (fun j=>listed.getD j false||j==i)) hT hΓ v3 hloc (t2 hneed r hmem) (hdst o (List.mem_of_getElem? ho)) (fun k hk=>?_) (fun k k1 k2=>?_) fun a' w' hrel'=>?_)
    ·rcases hk with hk|⟨j,g1,g2,g3,g4⟩
     ·exact .inl hk
     ·exact .inr ⟨j,g1,by simp only[g2,Bool.true_or],g3,g4⟩
    ·refine⟨?_,.inr ⟨i,h1,by simp,k1,k2⟩⟩
     rintro(hk|⟨j,g1,g2,g3,g4⟩)
     ·omega
     ·have:=abb g3 g4 k1 k2
      subst this
      simp only[hi2]at g2
      simp at g2
    ·have hS:(fun j=>(listed.setIfInBounds i true).getD j false)=fun j=>listed.getD j false||j==i:=by
      funext j
      exact RH aa
     refine ih (listed.setIfInBounds i true) a' w' (by simpa using hl) ?_ ?_ ?_
     ·rw[hS]
      intro j o' hoj hSj e he hb
      by_cases hji:j=i
      ·subst hji
       rw[ho]at hoj
       simp only[ay]at hoj
       subst hoj
       simp only[h3 o ho e he hb,Bool.true_or]
      ·have:(j==i)=false:=by simpa using hji
       simp only[this,Bool.or_false]at hSj
       have:=hd j o' hoj hSj e he hb
       simp only at this
       simp only[this,Bool.true_or]
     ·rw[hS]
      have:=Kl (S:=fun j=>listed.getD j false) (i:=i) hi2 h1
      omega
     ·rw[hS]
      refine⟨_,_,fun t=>?_,fun k=>?_,hrel'⟩
      ·rw[yQ,v1 t]
       cases hWi:jP ops.toList rs t i with
       |none=>
        have hnd:¬o.dst=some t:=by
         simp only[jP,ho,hr]at hWi
         intro hd
         simp[hd]at hWi
        rw[if_neg hnd]
        congr 1
        refine pC fun j hj hW=>?_
        have:(j==i)=false:=by
         simp only[beq_eq_false_iff_ne,ne_eq]
         rintro rfl
         exact hW hWi
        simp only[this,Bool.or_false]
       |some v=>
        have hd':o.dst=some t/\r.res.val=v:=by
         simp only[jP,ho,hr]at hWi
         by_cases hd:o.dst=some t
         ·simp only[hd,if_true,ay]at hWi;exact⟨hd,hWi⟩
         ·simp[hd]at hWi
        rw[if_pos hd'.1,EL hi2 h1 fun j hij hjn hSj=>?_,hWi,hd'.2]
        ·rfl
        ·cases hWj:jP ops.toList rs t j with
         |none=>rfl
         |some v'=>
          exfalso
          unfold jP at hWj
          cases hoj:ops.toList[j]? with
          |none=>simp[hoj]at hWj
          |some o'=>
           cases hrj:rs[j]? with
           |none=>simp[hoj,hrj]at hWj
           |some r'=>
            have hdj:o'.dst=some t:=by
             simp only[hoj,hrj]at hWj
             by_cases hd:o'.dst=some t
             ·exact hd
             ·simp[hd]at hWj
            have:=hclash j o' r' hoj hrj aa (.inr ⟨by
             simp only[Touch.mZ,l8,Bool.or_eq_true]
             exact .inl (.inl (.inl (.inl (.inr (ur (x:=t) (by simp[hd'.1]) (by simp[hdj])))))),hij⟩)
            have h5:decide (j<i)=false:=by simp;omega
            rw[h5]at this
            simp only[this]at hSj
            simp at hSj
      ·rw[lN,v2 k]
       cases hWi:jV ops.toList rs k i with
       |none=>
        have hnd:dm r.res.cu k=none:=by simpa only[jV,ho,hr]using hWi
        rw[hnd]
        simp only
        congr 1
        refine pC fun j hj hW=>?_
        have:(j==i)=false:=by
         simp only[beq_eq_false_iff_ne,ne_eq]
         rintro rfl
         exact hW hWi
        simp only[this,Bool.or_false]
       |some v=>
        have hd':dm r.res.cu k=some v:=by simpa only[jV,ho,hr]using hWi
        rw[hd',EL hi2 h1 fun j hij hjn hSj=>?_,hWi]
        ·rfl
        ·cases hWj:jV ops.toList rs k j with
         |none=>rfl
         |some v'=>
          exfalso
          unfold jV at hWj
          cases hoj:ops.toList[j]? with
          |none=>simp[hoj]at hWj
          |some o'=>
           cases hrj:rs[j]? with
           |none=>simp[hoj,hrj]at hWj
           |some r'=>
            simp only[hoj,hrj]at hWj
            have:=hclash j o' r' hoj hrj aa (.inr ⟨by
             simp only[Touch.mZ,l8,Bool.or_eq_true]
             exact .inl (.inr (ur (x:=k) (Ca hd') (Ca hWj))),hij⟩)
            have h5:decide (j<i)=false:=by simp;omega
            rw[h5]at this
            simp only[this]at hSj
            simp at hSj
 have h0:(fun i=>(Array.replicate ops.size false).getD i false)=fun _=>false:=by
  funext i
  simp only[Array.getD_eq_getD_getElem?,Array.getElem?_replicate]
  split<;>rfl
 refine main ops.size _ a w (by simp) ?_ ?_ ?_
 ·rw[h0];intro i o _ h;simp at h
 ·rw[h0,ag5];exact Nat.le_refl _
 ·rw[h0]
  have hnone:∀{α:Type} (W:Nat->Option α) (n:Nat),eZ W (fun _=>false) n=none:=fun W n=>by
   induction n with
   |zero=>rfl
   |succ n ih=>simp[eZ,ih]
  refine⟨s.cQ,s.store,fun t=>by rw[hnone];rfl,fun k=>by rw[hnone];rfl,hrel.ext (fun _=>rfl) (fun _=>rfl) fun k hk=>.inl hk⟩
include hT hΓ in
theorem ahN {id:Nat} {ops:Array Oper} {draws:Bool} {nt:Nat} (hm:P.follows .mixedOrders=true) (hdst:(ops.toList.all fun o=>match o.dst with|some d=>decide (d<nt)|none=>true)=true)
  {Q:Exit->Act->World->Prop} {s s':aK} {need:List Prop} (hrun:rP T Γ orc ops draws s=some (s',need)) (hneed:az need) {a:Act} {w:World} (hrel:Rel c nt (fun k=>k<s.next) s.cQ s.store a w)
  (hQ:∀a' w',Rel c nt (fun k=>k<s'.next) s'.cQ s'.store a' w'->Q .normal a' w'):(Code.region id ops draws).wpIn (iK c.ro) 3 P Q a w:=by
 have hdst':∀o∈ops.toList,∀d,o.dst=some d->d<nt:=fun o ho d hd=>by
  have:=(List.all_eq_true.1 hdst) o ho
  simpa [hd]using this
 unfold rP at hrun
 simp only[force_eq]at hrun
 cases hr:lF T Γ orc ops.toList ops.toList 0 s with
 |none=>rw[hr]at hrun;simp at hrun
 |some q=>
  obtain⟨s1,n1,rs⟩:=q
  rw[hr]at hrun
  simp only at hrun
  split at hrun
  ·rename_i hc
   simp only[ay,Prod.mk.injEq]at hrun
   obtain⟨rfl,rfl⟩:=hrun
   have hnx:s1.next=s.next:=(DS ops.toList 0 s s1 n1 rs hr).2.2.1
   cases draws with
   |false=>
    refine wpIn_region ?_
    have:=KL hT hΓ hdst' (Q:=Q) ops.toList [] s s1 n1 rs a w rfl rfl hr hneed (by simpa using hrel) (fun a' w' h=>hQ a' w' (by simpa [hnx]using h))
    simpa [List.range_eq_range']using this
   |true=>
    simp only[Bool.not_true,Bool.false_or,Bool.and_eq_true]at hc
    refine wpIn_region_any hm (ahO hT hΓ hdst' hr hneed hc.1 hc.2 (fun a' w' h=>hQ a' w' (by simpa [hnx]using h)) ?_)
    obtain⟨a1,a2,β,a3,a4⟩:=hrel
    exact⟨a1,a2,β,a3.drew,fun t v ht=>by
     obtain⟨x,hx,hv⟩:=a4 t v ht
     exact⟨x,hx,hv.iM cV.drew⟩⟩
  ·simp at hrun
end region
end Go.Am
namespace Go.Am
open AV
def aq.qo:aq->Exit
 |.normal=>.normal
 |.exit i=>.exit i
 |.ret=>.ret
def cm (nt:Nat):Code->Bool
 |.region _ ops _=>ops.toList.all fun o=>match o.dst with
  |some d=>decide (d<nt)
  |none=>true
 |.seq x y=>cm nt x&&cm nt y
 |.cond _ x y=>cm nt x&&cm nt y
 |.block _ x=>cm nt x
 |.loop x=>cm nt x
 |.scope x=>cm nt x
 |.rangeFunc _ _ x y=>cm nt x&&cm nt y
 |_=>true
def ax (P:Program) (c:Ctx) (nt:Nat) (x:Code) (s:aK) (Q:aq->aK->Prop):Prop:=
 ∀a w,Rel c nt (fun k=>k<s.next) s.cQ s.store a w->x.wpIn (iK c.ro) 3 P (fun e a' w'=>∃ae s',e=ae.qo/\Rel c nt (fun k=>k<s'.next) s'.cQ s'.store a' w'/\Q ae s') a w
section rules
variable {P:Program} {c:Ctx} {nt:Nat} {x y:Code} {s:aK} {Q Q':aq->aK->Prop}
theorem ax.mono (h:ax P c nt x s Q) (hq:∀e s',Q e s'->Q' e s'):ax P c nt x s Q':=
 fun a w hr=>wpIn_mono (h a w hr) fun _ _ _ ⟨ae,s',h1,h2,h3⟩=>⟨ae,s',h1,h2,hq _ _ h3⟩
theorem ax.skip (h:Q .normal s):ax P c nt .skip s Q:=fun _ _ hr=>wpIn_skip ⟨.normal,s,rfl,hr,h⟩
theorem ax.label {l:Nat} (h:Q .normal s):ax P c nt (.label l) s Q:=fun _ _ hr=>wpIn_label ⟨.normal,s,rfl,hr,h⟩
theorem ax.exit {i:Nat} (h:Q (.exit i) s):ax P c nt (.exit i) s Q:=fun _ _ hr=>wpIn_exit ⟨.exit i,s,rfl,hr,h⟩
theorem ax.ret (h:Q .ret s):ax P c nt .ret s Q:=fun _ _ hr=>wpIn_ret ⟨.ret,s,rfl,hr,h⟩
theorem ax.seq (h:ax P c nt x s fun e s'=>match e with
  |.normal=>ax P c nt y s' Q
  |e=>Q e s'):ax P c nt (.seq x y) s Q:=by
 intro a w hr
 refine wpIn_seq (wpIn_mono (h a w hr) ?_)
 rintro e a' w' ⟨ae,s',rfl,h2,h3⟩
 cases ae with
 |normal=>exact h3 a' w' h2
 |exit i=>exact⟨.exit i,s',rfl,h2,h3⟩
 |ret=>exact⟨.ret,s',rfl,h2,h3⟩
theorem ax.cond {b:Operand} {t:Bool} (hb:s.iw b=some (.bool t)) (h1:t=true->ax P c nt x s Q) (h2:t=false->ax P c nt y s Q):ax P c nt (.cond b x y) s Q:=by
 intro a w hr
 obtain⟨_,_,β,_,hs⟩:=id hr
 have:=(Lc hs b _ hb).bool
 cases t
 ·exact wpIn_cond_false this (h2 rfl a w hr)
 ·exact wpIn_cond_true this (h1 rfl a w hr)
theorem ax.block {i:Nat} (h:ax P c nt x s fun e s'=>match e with
  |.exit j=>if j=i then Q .normal s' else Q (.exit j) s'
  |e=>Q e s'):ax P c nt (.block i x) s Q:=by
 intro a w hr
 refine wpIn_block (wpIn_mono (h a w hr) ?_)
 rintro e a' w' ⟨ae,s',rfl,h2,h3⟩
 cases ae with
 |normal=>exact⟨.normal,s',rfl,h2,h3⟩
 |exit j=>
  simp only[aq.qo,Exit.inBlock]
  simp only at h3
  split
  ·rename_i hj;rw[if_pos hj]at h3;exact⟨.normal,s',rfl,h2,h3⟩
  ·rename_i hj;rw[if_neg hj]at h3;exact⟨.exit j,s',rfl,h2,h3⟩
 |ret=>exact⟨.ret,s',rfl,h2,h3⟩
theorem KA {F:Fence} {m:Nat} {α:Type} {c:Code} {R:Exit->Act->World->Prop} (I:α->Act->World->Prop) (μ:α->Nat)
  (round:∀s a w,I s a w->c.wpIn F m P (Exit.then (fun a' w'=>∃s',I s' a' w'/\μ s'<μ s) R) a w) {s:α} {a:Act} {w:World} (h0:I s a w):(Code.loop c).wpIn F m P R a w:=by
 intro b k cs hro hb hr
 have key:∀n s a w,μ s=n->I s a w->
   ∃e a' w',R e a' w'/\ArrivesIn (Machine.fenced P F) P (lone (b.atR a (.code c::.inLoop c::k)) cs w) b k cs e a' w':=by
  intro n
  induction n using Nat.strongRecOn with
  |_ n ih=>
   intro s a w hn hI
   obtain⟨e,a₁,w₁,hq,harr⟩:=round s a w hI b (.inLoop c::k) cs hro hb hr
   cases e with
   |normal=>
    obtain⟨s',hI₁,hlt⟩:=hq
    obtain⟨e₂,a₂,w₂,hq₂,harr₂⟩:=ih (μ s') (hn▸hlt) s' a₁ w₁ rfl hI₁
    exact⟨e₂,a₂,w₂,hq₂,.of_steps (StepsIn.trans harr (.one (fenced_calm hb hr rfl) stepR_inLoop)) harr₂⟩
   |exit id=>exact⟨_,a₁,w₁,hq,.pass (x:=.inLoop c) rfl (fun _ _=>.inl (by simp)) harr⟩
   |goto l=>exact⟨_,a₁,w₁,hq,.pass (x:=.inLoop c) rfl (fun _ _=>.inl (by simp)) harr⟩
   |ret=>exact⟨_,a₁,w₁,hq,.pass (x:=.inLoop c) rfl (fun _ _=>.inl (by simp)) harr⟩
   |panic ch=>exact⟨_,a₁,w₁,hq,.pass (x:=.inLoop c) rfl (fun _ _=>.inl (by simp)) harr⟩
   |outgrown=>exact⟨_,a₁,w₁,hq,.pass (x:=.inLoop c) rfl (fun _ _=>.inl (by simp)) harr⟩
 obtain⟨e,a',w',hq,harr⟩:=key _ s a w rfl h0
 exact⟨e,a',w',hq,.of_steps (.one (fenced_calm hb hr rfl) stepR_loop) harr⟩
theorem ax.loop {α:Type} (S:α->aK) (I:α->Prop) (μ:α->Nat) (i:α) (hs:s=S i) (h0:I i)
  (round:∀i,I i->ax P c nt x (S i) fun e s'=>match e with
   |.normal=>∃j,s'=S j/\I j/\μ j<μ i
   |e=>Q e s'):ax P c nt (.loop x) s Q:=by
 intro a w hr
 refine KA (fun i a w=>I i/\Rel c nt (fun k=>k<(S i).next) (S i).cQ (S i).store a w) μ (s:=i) ?_ ⟨h0,by rw[<-hs];exact hr⟩
 rintro i a w ⟨hi,hr⟩
 refine wpIn_mono (round i hi a w hr) ?_
 rintro e a' w' ⟨ae,s',rfl,h2,h3⟩
 cases ae with
 |normal=>
  obtain⟨j,rfl,hj,hlt⟩:=h3
  exact⟨j,⟨hj,h2⟩,hlt⟩
 |exit i=>exact⟨.exit i,s',rfl,h2,h3⟩
 |ret=>exact⟨.ret,s',rfl,h2,h3⟩
variable {T:Types} (hT:fu P T) {Γ:aX} (hΓ:bq P Γ) (hm:P.follows .mixedOrders=true)
include hT hΓ hm in
theorem ax.region {orc:List (Nat×Bool)} {id:Nat} {ops:Array Oper} {d:Bool} (hd:cm nt (.region id ops d)=true) {s':aK} {need:List Prop} (hr:rP T Γ orc ops d s=some (s',need)) (hn:az need) (h:Q .normal s'):
  ax P c nt (.region id ops d) s Q:=
 fun _ _ hrel=>ahN hT hΓ hm hd hr hn hrel fun _ _ h'=>⟨.normal,s',rfl,h',h⟩
include hT hΓ hm in
theorem ax.run:∀(n:Nat) {x:Code} {s:aK},cm nt x=true->∀{e:aq} {s':aK} {need:List Prop},gd T Γ n x s=some (e,s',need)->az need->
  ax P c nt x s fun e' t=>e'=e/\t=s'
 |0,x,s,_,e,s',need,h,_=>by simp[gd]at h
 |n+1,.skip,s,_,e,s',need,h,hn=>by
  simp only[gd,ay,Prod.mk.injEq]at h
  obtain⟨rfl,rfl,rfl⟩:=h
  exact .skip ⟨rfl,rfl⟩
 |n+1,.label l,s,_,e,s',need,h,hn=>by
  simp only[gd,ay,Prod.mk.injEq]at h
  obtain⟨rfl,rfl,rfl⟩:=h
  exact .label ⟨rfl,rfl⟩
 |n+1,.exit i,s,_,e,s',need,h,hn=>by
  simp only[gd,ay,Prod.mk.injEq]at h
  obtain⟨rfl,rfl,rfl⟩:=h
  exact .exit ⟨rfl,rfl⟩
 |n+1,.ret,s,_,e,s',need,h,hn=>by
  simp only[gd,ay,Prod.mk.injEq]at h
  obtain⟨rfl,rfl,rfl⟩:=h
  exact .ret ⟨rfl,rfl⟩
 |n+1,.region i ops d,s,hd,e,s',need,h,hn=>by
  simp only[gd]at h
  cases hr:rP T Γ [] ops d s with
  |none=>rw[hr]at h;simp at h
  |some q=>
   obtain⟨s1,p⟩:=q
   rw[hr]at h
   simp only[ay,Prod.mk.injEq]at h
   obtain⟨rfl,rfl,rfl⟩:=h
   exact ax.region hT hΓ hm hd hr hn ⟨rfl,rfl⟩
 |n+1,.seq x y,s,hd,e,s',need,h,hn=>by
  simp only[cm,Bool.and_eq_true]at hd
  simp only[gd]at h
  cases hx:gd T Γ n x s with
  |none=>rw[hx]at h;simp at h
  |some q=>
   obtain⟨e1,s1,p⟩:=q
   rw[hx]at h
   cases e1 with
   |normal=>
    simp only at h
    cases hy:gd T Γ n y s1 with
    |none=>rw[hy]at h;simp at h
    |some q2=>
     obtain⟨e2,s2,p2⟩:=q2
     rw[hy]at h
     simp only[ay,Prod.mk.injEq]at h
     obtain⟨rfl,rfl,rfl⟩:=h
     refine .seq ((ax.run n hd.1 hx (fD.1 hn).1).mono ?_)
     rintro e' t ⟨rfl,rfl⟩
     exact ax.run n hd.2 hy (fD.1 hn).2
   |exit i=>
    simp only[ay,Prod.mk.injEq]at h
    obtain⟨rfl,rfl,rfl⟩:=h
    refine .seq ((ax.run n hd.1 hx hn).mono ?_)
    rintro e' t ⟨rfl,rfl⟩
    exact⟨rfl,rfl⟩
   |ret=>
    simp only[ay,Prod.mk.injEq]at h
    obtain⟨rfl,rfl,rfl⟩:=h
    refine .seq ((ax.run n hd.1 hx hn).mono ?_)
    rintro e' t ⟨rfl,rfl⟩
    exact⟨rfl,rfl⟩
 |n+1,.cond b x y,s,hd,e,s',need,h,hn=>by
  simp only[cm,Bool.and_eq_true]at hd
  simp only[gd]at h
  cases hb:s.iw b with
  |none=>rw[hb]at h;simp at h
  |some v=>
   rw[hb]at h
   cases v<;>simp only[reduceCtorEq]at h
   case bool t=>
    cases t with
    |true=>exact .cond hb (fun _=>ax.run n hd.1 h hn) (fun h=>by simp at h)
    |false=>exact .cond hb (fun h=>by simp at h) (fun _=>ax.run n hd.2 h hn)
 |n+1,.block i x,s,hd,e,s',need,h,hn=>by
  simp only[cm]at hd
  simp only[gd]at h
  cases hx:gd T Γ n x s with
  |none=>rw[hx]at h;simp at h
  |some q=>
   obtain⟨e1,s1,p⟩:=q
   rw[hx]at h
   cases e1 with
   |normal=>
    simp only[ay,Prod.mk.injEq]at h
    obtain⟨rfl,rfl,rfl⟩:=h
    refine .block ((ax.run n hd hx hn).mono ?_)
    rintro e' t ⟨rfl,rfl⟩
    exact⟨rfl,rfl⟩
   |exit j=>
    simp only at h
    split at h
    ·rename_i hj
     have hj':j=i:=by simpa using hj
     simp only[ay,Prod.mk.injEq]at h
     obtain⟨rfl,rfl,rfl⟩:=h
     refine .block ((ax.run n hd hx hn).mono ?_)
     rintro e' t ⟨rfl,rfl⟩
     simp[hj']
    ·rename_i hj
     have hj':¬j=i:=by simpa using hj
     simp only[ay,Prod.mk.injEq]at h
     obtain⟨rfl,rfl,rfl⟩:=h
     refine .block ((ax.run n hd hx hn).mono ?_)
     rintro e' t ⟨rfl,rfl⟩
     simp[hj']
   |ret=>
    simp only[ay,Prod.mk.injEq]at h
    obtain⟨rfl,rfl,rfl⟩:=h
    refine .block ((ax.run n hd hx hn).mono ?_)
    rintro e' t ⟨rfl,rfl⟩
    exact⟨rfl,rfl⟩
 |n+1,.loop x,s,hd,e,s',need,h,hn=>by
  have key:∀(m:Nat) (s:aK) (e:aq) (s':aK) (need:List Prop),m<=n+1->gd T Γ m (.loop x) s=some (e,s',need)->az need->
    ∀(a:Act) (w:World) (fr:Frame) (k:List Item) (cs:List Frame),fr.roundOf=(iK c.ro).round->(iK c.ro).fn fr.fn->(iK c.ro).room (cs.length+1+3)->Rel c nt (fun k=>k<s.next) s.cQ s.store a w->
     ∃e' a' w',(∃ae t,e'=aq.qo ae/\Rel c nt (fun k=>k<t.next) t.cQ t.store a' w'/\ae=e/\t=s')/\ArrivesIn (Machine.fenced P (iK c.ro)) P (lone (fr.atR a (.code x::.inLoop x::k)) cs w) fr k cs e' a' w':=by
   intro m
   induction m with
   |zero=>intro s e s' need _ h;simp[gd]at h
   |succ m ihm=>
    intro s e s' need hmn h hn a w fr k cs h01 h02 h03 hrel
    simp only[gd]at h
    cases hx:gd T Γ m x s with
    |none=>rw[hx]at h;simp at h
    |some q=>
     obtain⟨e1,s1,p⟩:=q
     rw[hx]at h
     have hlen:m<=n:=aa
     have hrunx:az p->ax P c nt x s fun e' t=>e'=e1/\t=s1:=fun hp=>ax.run m (by simpa [cm]using hd) hx hp
     cases e1 with
     |normal=>
      simp only at h
      cases hy:gd T Γ m (.loop x) s1 with
      |none=>rw[hy]at h;simp at h
      |some q2=>
       obtain⟨e2,s2,p2⟩:=q2
       rw[hy]at h
       simp only[ay,Prod.mk.injEq]at h
       obtain⟨rfl,rfl,rfl⟩:=h
       obtain⟨e',a1,w1,⟨ae,t,rfl,g1,rfl,rfl⟩,harr⟩:=hrunx (fD.1 hn).1 a w hrel fr (.inLoop x::k) cs h01 h02 h03
       obtain⟨e'',a2,w2,g2,harr2⟩:=ihm t e2 s2 p2 aa hy (fD.1 hn).2 a1 w1 fr k cs h01 h02 h03 g1
       exact⟨e'',a2,w2,g2,.of_steps (StepsIn.trans harr (.one (fenced_calm h02 h03 rfl) stepR_inLoop)) harr2⟩
     |exit i=>
      simp only[ay,Prod.mk.injEq]at h
      obtain⟨rfl,rfl,rfl⟩:=h
      obtain⟨e',a1,w1,⟨ae,t,rfl,g1,rfl,rfl⟩,harr⟩:=hrunx hn a w hrel fr (.inLoop x::k) cs h01 h02 h03
      exact⟨_,a1,w1,⟨_,t,rfl,g1,rfl,rfl⟩,.pass (x:=.inLoop x) rfl (fun _ _=>.inl (by simp[aq.qo])) harr⟩
     |ret=>
      simp only[ay,Prod.mk.injEq]at h
      obtain⟨rfl,rfl,rfl⟩:=h
      obtain⟨e',a1,w1,⟨ae,t,rfl,g1,rfl,rfl⟩,harr⟩:=hrunx hn a w hrel fr (.inLoop x::k) cs h01 h02 h03
      exact⟨_,a1,w1,⟨_,t,rfl,g1,rfl,rfl⟩,.pass (x:=.inLoop x) rfl (fun _ _=>.inl (by simp[aq.qo])) harr⟩
  intro a w hrel fr k cs h01 h02 h03
  obtain⟨e',a',w',g1,harr⟩:=key (n+1) s e s' need bz h hn a w fr k cs h01 h02 h03 hrel
  exact⟨e',a',w',g1,.of_steps (.one (fenced_calm h02 h03 rfl) stepR_loop) harr⟩
 |n+1,.scope x,s,_,e,s',need,h,_=>by simp[gd]at h
 |n+1,.goto l,s,_,e,s',need,h,_=>by simp[gd]at h
 |n+1,.refuse l,s,_,e,s',need,h,_=>by simp[gd]at h
 |n+1,.rangeFunc _ _ _ _,s,_,e,s',need,h,_=>by simp[gd]at h
include hT hΓ hm in
theorem ax.step (n:Nat) (hd:cm nt x=true) {e:aq} {s':aK} {need:List Prop} (hc:gd T Γ n x s=some (e,s',need)) (hn:az need) (h:Q e s'):ax P c nt x s Q:=
 (ax.run hT hΓ hm n hd hc hn).mono fun _ _ ⟨h1,h2⟩=>by subst h1;subst h2;exact h
end rules
end Go.Am
namespace Go.Am
open AV
def gz (ρ:Nat->Option Nat) (u v:AV):Prop:=v.isAgg=u.isAgg/\∀M w β cs,aN M w β [u] cs->aN M w (fun k=>(ρ k).bind β) [v] cs
structure dK (ρ:Nat->Option Nat) (o1 o2:au):Prop where
 row:o2.row=o1.row
 wr:o2.wr=o1.wr
 es:o2.es=o1.es
 len:o2.len=o1.len
 f:∀i,i<o1.len->gz ρ (o1.f i) (o2.f i)
def vw (o:au):Prop:=o.row=true/\o.len=0/\0<o.es
theorem X6 {ρ:Nat->Option Nat}:(fun k=>(ρ k).bind bG)=bG:=by
 funext k
 cases ρ k<;>rfl
section weak
variable {c c':Ctx} {st st2:aC} {D D2:Nat->Prop} {β β2:aY} {w:World} {ρ:Nat->Option Nat}
theorem CB (hMf:c'.Mf=c.Mf) (hst:∀k2 o2,look k2 st2=some o2->(∃k1 o1,ρ k2=some k1/\look k1 st=some o1/\dK ρ o1 o2)\/β2 k2=none) (hβ:∀k2 k1,ρ k2=some k1->β2 k2=β k1):
  ∀b,aO c' st2 β2 b->aO c st β b:=by
 rintro b (hb|⟨k2,o2,N,h1,h2,h3⟩)
 ·exact .inl (hMf▸hb)
 ·rcases hst k2 o2 h1 with⟨k1,o1,g1,g2,g3⟩|g
  ·exact .inr ⟨k1,o1,N,g2,by rw[<-g3.wr];exact h2,by rw[<-hβ k2 k1 g1];exact h3⟩
  ·rw[g]at h3;simp at h3
theorem aN.weak {u v:AV} {cs:List Value} {M M':Nat->Prop} (hM:∀b,M' b->M b) (hβ:∀k2 k1,ρ k2=some k1->β2 k2=β k1) (hle:gz ρ u v) (h:aN M w β [u] cs):aN M' w β2 [v] cs:=by
 refine(hle.2 M w β cs h).mono (fun b o h1 h2=>⟨h2,fun h3=>h1 (hM b h3)⟩) β2 fun k x hk=>?_
 cases hr:ρ k with
 |none=>rw[hr]at hk;simp at hk
 |some k1=>
  rw[hr]at hk
  rw[hβ k k1 hr];exact hk
theorem bw.weak {u v:AV} {x:Value} {M M':Nat->Prop} (hM:∀b,M' b->M b) (hβ:∀k2 k1,ρ k2=some k1->β2 k2=β k1) (hle:gz ρ u v) (h:bw M w β u x):bw M' w β2 v x:=by
 obtain⟨cs,h1,h2⟩:=h
 exact⟨cs,h1.weak hM hβ hle,by rw[hle.1];exact h2⟩
theorem bF.weak (h:bF c st D β w) (hMf:c'.Mf=c.Mf) (hw0:c'.w0=c.w0) (hMw:c'.Mw=c.Mw) (hinj:∀a b k,ρ a=some k->ρ b=some k->a=b)
  (hst:∀k2 o2,look k2 st2=some o2->(∃k1 o1,ρ k2=some k1/\look k1 st=some o1/\dK ρ o1 o2)\/(β2 k2=none/\vw o2/\D2 k2)) (hβ:∀k2 k1,ρ k2=some k1->β2 k2=β k1) (hd2:∀k2 k1,ρ k2=some k1->D2 k2)
  (hdom:∀k2 x,β2 k2=some x->D2 k2) (hlt:∀k2 b (N:Nat×Nat),β2 k2=some (b,N)->b<w.heap.size) (hkeep:∀k x,c'.k0 k=some x->β2 k=some x):bF c' st2 D2 β2 w:=by
 have hM:=CB hMf (fun k2 o2 h=>(hst k2 o2 h).imp id (·.1)) hβ
 have hst':∀k2 o2 x,look k2 st2=some o2->β2 k2=some x->∃k1 o1,ρ k2=some k1/\look k1 st=some o1/\dK ρ o1 o2:=fun k2 o2 x h hb=>(hst k2 o2 h).resolve_right fun g=>by rw[g.1]at hb;simp at hb
 refine {obj:=fun k2 o2 hk x hx=>?_,dS:=fun k2 o2 hk hb=>?_,inj:=fun k k' o o' b N N' h1 h2 hw hb hb'=>?_,dom:=hdom,keep:=hkeep,lt:=hlt,os:=(by rw[hw0];exact h.os),tape:=(by rw[hw0];exact h.tape),output:=(by rw[hw0];exact h.output),size:=(by rw[hw0];exact h.size),block:=fun b=>by rw[hw0,hMw];exact h.block b,gE:=fun b=>by rw[hw0,hMf,hMw];exact h.gE b,new:=fun k o b N hk hw hb=>?_}
 ·obtain⟨k1,o1,g1,g2,g3⟩:=hst' k2 o2 x hk hx
  obtain⟨b,N,cs,ty,a1,a2,a3,a4,⟨a5,a5'⟩,a6,a7,a8⟩:=h.obj k1 o1 g2 x (by rw[<-hβ k2 k1 g1];exact hx)
  have e2:β2 k2=some (b,N):=by rw[hβ k2 k1 g1];exact a1
  refine⟨b,N,cs,ty,e2,a2,by rw[g3.es];exact a3,by rw[g3.es];exact a4,⟨by rw[g3.len];exact a5,by rw[g3.len];exact a5'⟩,
   fun hw=>.inr ⟨k2,o2,N,hk,hw,e2⟩,fun hw hm=>a7 (by rw[<-g3.wr];exact hw) (hM b hm),fun i hi=>?_⟩
  rw[g3.len]at hi
  obtain⟨ps,p1,p2,p3⟩:=a8 i hi
  refine⟨ps,by rw[g3.es];exact p1,?_,by rw[g3.es];exact p3⟩
  rw[g3.row]
  cases hr:o1.row with
  |true=>
   rw[hr]at p2
   simp only[if_true]at p2 ⊢
   have:=(g3.f i hi).2 _ _ _ _ p2
   rw[X6]at this
   exact this.mono (fun b o h1 h2=>⟨h2,fun h3=>h1 (hM b h3)⟩) _ fun _ _ h=>h
  |false=>
   rw[hr]at p2
   simp only[Bool.false_eq_true,if_false]at p2 ⊢
   exact p2.weak hM hβ (g3.f i hi)
 ·rcases hst k2 o2 hk with⟨k1,o1,g1,g2,g3⟩|⟨g1,g2,g3⟩
  ·have:=(h.dS k1 o1 g2 (by rw[<-hβ k2 k1 g1];exact hb)).1
   exact⟨by rw[g3.row,g3.len,g3.es];exact this,hd2 k2 k1 g1⟩
  ·exact⟨g2,g3⟩
 ·obtain⟨k1,o1,g1,g2,g3⟩:=hst' k o _ h1 hb
  obtain⟨k1',o1',g1',g2',g3'⟩:=hst' k' o' _ h2 hb'
  rw[hβ k k1 g1]at hb
  rw[hβ k' k1' g1']at hb'
  have:=h.inj k1 k1' o1 o1' b N N' g2 g2' (by rw[<-g3.wr];exact hw) hb hb'
  subst this
  exact hinj k k' k1 g1 g1'
 ·obtain⟨k1,o1,g1,g2,g3⟩:=hst' k o _ hk hb
  rw[hw0,hMw]
  exact h.new k1 o1 b N g2 (by rw[<-g3.wr];exact hw) (by rw[<-hβ k k1 g1];exact hb)
structure Le (c:Ctx) (ρ:Nat->Option Nat) (s s2:aK):Prop where
 inj:∀a b k,ρ a=some k->ρ b=some k->a=b
 cQ:∀t v,look t s2.cQ=some v->∃u,look t s.cQ=some u/\u.isTuple=false/\gz ρ u v
 store:∀k2 o2,look k2 s2.store=some o2->(∃k1 o1,ρ k2=some k1/\look k1 s.store=some o1/\dK ρ o1 o2)\/(ρ k2=none/\vw o2/\k2<s2.next)
 dom:∀k2 k1,ρ k2=some k1->k2<s2.next
 keep:∀k x,c.k0 k=some x->ρ k=some k
theorem Le.Xf {s s2:aK} {tmps:Array Value} (hle:Le c ρ s s2) (a3:bF c s.store (fun k=>k<s.next) β w) (a4:tr (aO c s.store β) w β s.cQ tmps):
  bF c s2.store (fun k=>k<s2.next) (fun k=>(ρ k).bind β) w/\tr (aO c s2.store fun k=>(ρ k).bind β) w (fun k=>(ρ k).bind β) s2.cQ tmps:=by
 have hβ:∀k2 k1,ρ k2=some k1->(fun k=>(ρ k).bind β) k2=β k1:=fun k2 k1 h=>by simp[h]
 have hst:∀k2 o2,look k2 s2.store=some o2->(∃k1 o1,ρ k2=some k1/\look k1 s.store=some o1/\dK ρ o1 o2)\/((ρ k2).bind β=none/\vw o2/\k2<s2.next):=fun k2 o2 h=>(hle.store k2 o2 h).imp id fun⟨g1,g2⟩=>⟨by rw[g1];rfl,g2⟩
 refine⟨a3.weak rfl rfl rfl hle.inj hst hβ hle.dom (fun k2 x hk=>?_) (fun k2 b N hk=>?_) (fun k x hk=>?_),fun t v ht=>?_⟩
 ·cases hr:ρ k2 with
  |none=>simp[hr]at hk
  |some k1=>exact hle.dom k2 k1 hr
 ·cases hr:ρ k2 with
  |none=>simp[hr]at hk
  |some k1=>simp[hr]at hk;exact a3.lt k1 b N hk
 ·simp only[hle.keep k x hk,Option.bind_some];exact a3.keep k x hk
 ·obtain⟨u,hu,htu,huv⟩:=hle.cQ t v ht
  obtain⟨x,hx,hv⟩:=a4 t u hu
  exact⟨x,hx,((hv.one htu).weak (CB rfl (fun k2 o2 h=>(hst k2 o2 h).imp id (·.1)) hβ) hβ huv).bT⟩
theorem Le.rel {nt:Nat} {s s2:aK} (hle:Le c ρ s s2) {a:Act} (h:Rel c nt (fun k=>k<s.next) s.cQ s.store a w):Rel c nt (fun k=>k<s2.next) s2.cQ s2.store a w:=
 let ⟨a1,a2,_,a3,a4⟩:=h
 ⟨a1,a2,_,hle.Xf a3 a4⟩
theorem ax.weak {P:Program} {nt:Nat} {x:Code} {s s2:aK} {Q:aq->aK->Prop} (hle:Le c ρ s s2) (h:ax P c nt x s2 Q):ax P c nt x s Q:=
 fun a w hr=>h a w (hle.rel hr)
theorem ax.aat {P:Program} {nt:Nat} {x:Code} {s:aK} {Q:aq->aK->Prop} {α:Type} (S:α->aK) (I:α->Prop) (μ:α->Nat) (i:α) (hs:∃ρ,Le c ρ s (S i)) (h0:I i)
  (round:∀i,I i->ax P c nt x (S i) fun e s'=>match e with
   |.normal=>∃j,(∃ρ,Le c ρ s' (S j))/\I j/\μ j<μ i
   |e=>Q e s'):ax P c nt (.loop x) s Q:=by
 intro a w hr
 obtain⟨ρ,hle⟩:=hs
 refine KA (fun i a w=>I i/\Rel c nt (fun k=>k<(S i).next) (S i).cQ (S i).store a w) μ (s:=i) ?_ ⟨h0,hle.rel hr⟩
 rintro i a w ⟨hi,hr⟩
 refine wpIn_mono (round i hi a w hr) ?_
 rintro e a' w' ⟨ae,s',rfl,h2,h3⟩
 cases ae with
 |normal=>
  obtain⟨j,⟨ρ,hle⟩,hj,hlt⟩:=h3
  exact⟨j,⟨hj,hle.rel h2⟩,hlt⟩
 |exit i=>exact⟨.exit i,s',rfl,h2,h3⟩
 |ret=>exact⟨.ret,s',rfl,h2,h3⟩
end weak
theorem cH.bG {M:Nat->Prop} {w:World} {β:aY}:∀{l:List AV} {xs:List Value},cH M w β l xs->bH l=[]->cH M w Am.bG l xs
 |[],[],_,_=>trivial
 |a::l,x::xs,h,hk=>by
  simp only[bH,List.append_eq_nil_iff]at hk
  obtain⟨⟨cs,h1,h2⟩,h3⟩:=h
  exact⟨⟨cs,BY h1 (by simp[bH,hk.1]),h2⟩,cH.bG h3 hk.2⟩
 |[],_::_,h,_=>h.elim
 |_::_,[],h,_=>h.elim
theorem DB {M:Nat->Prop} {w:World} {β:aY}:∀{l:List AV} {xs:List Value} {i:Nat} {pre post:Array Value},cH M w β l xs->pre.size=i->tr M w β (aQ i l) (pre++xs.toArray++post)
 |[],[],i,pre,post,_,_=>fun t v h=>by simp[aQ,look]at h
 |a::l,x::xs,i,pre,post,h,hp=>by
  intro t v ht
  simp only[aQ,look]at ht
  split at ht
  ·rename_i hit
   have hit':i=t:=by simpa using hit
   simp only[ay]at ht
   subst ht;subst hit'
   exact⟨x,by rw[Array.append_assoc,Array.getElem?_append_right aa,<-hp,Nat.sub_self,Array.getElem?_append_left (by simp)];simp,h.1.bT⟩
  ·have:=DB (pre:=pre.push x) (post:=post) h.2 (i:=i+1) (by simp[hp]) t v ht
   have e:pre.push x++xs.toArray++post=pre++(x::xs).toArray++post:=by
    apply Array.ext';simp
   rwa [e]at this
 |[],_::_,_,_,_,h,_=>h.elim
 |_::_,[],_,_,_,h,_=>h.elim
def bh (u v:AV):Prop:=v.isAgg=u.isAgg/\∀M w cs,aN M w bG [u] cs->aN M w bG [v] cs
theorem bh.refl (u:AV):bh u u:=⟨rfl,fun _ _ _ h=>h⟩
def fR:List AV->List AV->Prop
 |[],[]=>True
 |u::us,v::vs=>bh u v/\fR us vs
 |_,_=>False
theorem fR.refl:∀l:List AV,fR l l
 |[]=>trivial
 |u::l=>⟨.refl u,fR.refl l⟩
def fK (us:List AV) (res:AV):Prop:=
 match us,res with
 |[u],v=>bh u v
 |us,.tuple vs=>fR us vs
 |_,_=>False
def Ends (T:Types) (fn:Func) (res:AV) (s:aK):Prop:=
 ∃vs q us,iW T s fn.results.toList=some (vs,q)/\az q/\fA (kY (pick s.store (bH vs))) vs=some us/\fK us res
section funcs
variable {P:Program} {T:Types} (hT:fu P T) {c:Ctx} {w:World}
include hT in
theorem Fu {D:Nat->Prop} {β:aY} {s:aK} {a:Act} (hw:bF c s.store D β w) (hs:tr (aO c s.store β) w β s.cQ a.tmps) {g:ResultVar->Sem Value}
  (hg1:∀t,g (.tmp t)=pure (a.tmps.getD t undef)) (hg2:∀r t,g (.cell r t)=(do let x <-asAddr (a.tmps.getD r undef);loadVar t x)):
  ∀{l:List ResultVar} {vs:List AV} {q:List Prop},iW T s l=some (vs,q)->az q->∃xs,(l.mapM g).run P w=.ok xs w/\cH (aO c s.store β) w β vs xs/\xs.length=l.length
 |[],vs,q,h,hq=>by
  simp only[iW,ay,Prod.mk.injEq]at h
  obtain⟨rfl,rfl⟩:=h
  exact⟨[],by simp,trivial,rfl⟩
 |x::l,vs,q,h,hq=>by
  simp only[iW]at h
  cases hx:xw T s x with
  |none=>rw[hx]at h;simp at h
  |some p=>
   obtain⟨v,p1⟩:=p
   cases hl:iW T s l with
   |none=>rw[hx,hl]at h;simp at h
   |some p2=>
    obtain⟨vs',q'⟩:=p2
    rw[hx,hl]at h
    simp only[ay,Prod.mk.injEq]at h
    obtain⟨rfl,rfl⟩:=h
    obtain⟨xs,hxs,hv,hlen⟩:=Fu hw hs hg1 hg2 hl (fD.1 hq).2
    have hone:∃y,(g x).run P w=.ok y w/\bw (aO c s.store β) w β v y:=by
     cases x with
     |tmp t=>
      simp only[xw]at hx
      cases ht:look t s.cQ with
      |none=>rw[ht]at hx;simp at hx
      |some u=>
       rw[ht]at hx
       simp only at hx
       split at hx
       ·simp at hx
       ·rename_i htu
        simp only[ay,Prod.mk.injEq]at hx
        obtain⟨rfl,_⟩:=hx
        obtain⟨y,hy,hvy⟩:=hs t u ht
        refine⟨y,?_,hvy.one (by simpa using htu)⟩
        rw[hg1]
        simp[Array.getD_eq_getD_getElem?,hy]
     |cell r t=>
      simp only[xw]at hx
      cases ht:look t T with
      |none=>rw[ht]at hx;simp at hx
      |some ti=>
       cases hr:look r s.cQ with
       |none=>rw[ht,hr]at hx;simp at hx
       |some pv=>
        rw[ht,hr]at hx
        simp only at hx
        cases hld:qN s.store ti pv with
        |none=>rw[hld]at hx;simp at hx
        |some ld=>
         rw[hld]at hx
         simp only[ay,Prod.mk.injEq]at hx
         obtain⟨rfl,rfl⟩:=hx
         obtain⟨y,hy,hvy⟩:=hs r pv hr
         obtain⟨_,z,hz,hvz⟩:=PZ hT hw (fun _ _ h=>h) ht hvy hld (fD.1 hq).1
         refine⟨z,?_,hvz⟩
         rw[hg2]
         simp only[Array.getD_eq_getD_getElem?,hy,Option.getD_some]
         cases y with
         |pointer ad=>
          cases ad with
          |some ad=>simpa [Instr.loadAt,Instr.sureAddr,asAddr]using hz
          |none=>simp[Instr.loadAt,Instr.sureAddr]at hz
         |_=>simp[Instr.loadAt,Instr.sureAddr]at hz
    obtain⟨y,hy,hvy⟩:=hone
    exact⟨y::xs,by simp[List.mapM_cons,hy,hxs],⟨hvy,hv⟩,by simp[hlen]⟩
theorem AL {M:Nat->Prop}:∀{us vs:List AV} {xs:List Value},fR us vs->cH M w bG us xs->cH M w bG vs xs
 |[],[],[],_,_=>trivial
 |u::us,v::vs,x::xs,h,hv=>by
  obtain⟨⟨cs,h1,h2⟩,h3⟩:=hv
  exact⟨⟨cs,h.1.2 _ _ _ h1,by rw[h.1.1];exact h2⟩,AL h.2 h3⟩
 |[],_::_,_,h,_=>h.elim
 |_::_,[],_,h,_=>h.elim
 |_::_,_::_,[],_,h=>h.elim
 |[],[],_::_,_,h=>h.elim
theorem AM {st pre:aC} {D:Nat->Prop} {β:aY} (h:bF c st D β w) (hpre:∀k o,look k pre=some o->look k st=some o):∀{l m:List AV} {xs:List Value},fA pre l=some m->cH (aO c st β) w β l xs->
  cH (aO c st β) w bG m xs
 |[],m,[],hf,_=>by simp only[fA,ay]at hf;subst hf;trivial
 |a::l,m,x::xs,hf,hv=>by
  simp only[fA]at hf
  cases ha:dj pre a with
  |none=>rw[ha]at hf;simp at hf
  |some b=>
   cases hl:fA pre l with
   |none=>rw[ha,hl]at hf;simp at hf
   |some m'=>
    rw[ha,hl]at hf
    simp only[ay]at hf
    subst hf
    obtain⟨⟨cs,h1,h2⟩,h3⟩:=hv
    obtain⟨g1,g2⟩:=Cm h hpre ha h1
    exact⟨⟨cs,g1,by rw[g2];exact h2⟩,AM h hpre hl h3⟩
 |[],_,_::_,_,h=>h.elim
 |_::_,_,[],_,h=>h.elim
theorem Rel.leave {fn:Func} {R:Ending->World->Prop} {nt:Nat} {D:Nat->Prop} {sl:List (Nat×AV)} {st:aC} {a:Act} {w:World} (hr:Rel c nt D sl st a w):
  ∃w',Rel c nt D sl st {a with defers:=[]} w'/\∀v,(results fn a.tmps).run P w'=.ok v w'->R (.returned v) w'->LeavesInM Fence.wide 3 P fn a.tmps R a.defers .returning w:=by
 obtain⟨⟨_,Ds,a1,hnd,hD⟩,a2,β,a3,a4⟩:=hr
 rw[a1]
 clear a1
 induction Ds generalizing w with
 |nil=>exact⟨w,⟨.nil,a2,β,a3,a4⟩,fun v h1 h2=>⟨v,h1,h2⟩⟩
 |cons B Ds ih=>
  obtain⟨b2,b3⟩:=hD B (by simp)
  have hh:∀(b:Nat) x ty fr,w.heap[b]?=some (Obj.cells x ty fr)->(w.putObj B (.deferred none)).heap[b]?=some (Obj.cells x ty fr):=fun b x ty fr h=>by
   rw[World.putObj_heap_other (fun e=>by subst e;rw[b2]at h;cases h)];exact h
  obtain⟨w',h1,h2⟩:=ih (w:=w.putObj B (.deferred none)) (List.nodup_cons.1 hnd).2 (fun E hE=>⟨(World.putObj_heap_other (fun e=>(List.nodup_cons.1 hnd).1 (by rw[<-e];exact hE))).trans (hD E (by simp[hE])).1,(hD E (by simp[hE])).2⟩)
   (a3.RX hh rfl rfl rfl (by simp) (fun b hb=>World.putObj_heap_other (fun e=>aa))) (fun t v ht=>by
    obtain⟨x,hx,hv⟩:=a4 t v ht
    exact⟨x,hx,hv.iT (fun b _ _ _ m g=>⟨hh _ _ _ _ g,m⟩) fun _ _ h=>h⟩)
  exact⟨w',h1,fun v g1 g2=>⟨by simp,.inl ⟨B,_,rfl,run_takeDeferred b2,h2 v g1 g2⟩⟩⟩
include hT in
theorem MH {fn:Func} {res:AV} {nt:Nat} {s:aK} {a:Act} (he:Ends T fn res s) (hr:Rel c nt (fun k=>k<s.next) s.cQ s.store a w):
  qH c a.defers w/\∃x β st',(results fn a.tmps).run P w=.ok x w/\bF c st' (fun k=>k<s.next) β w/\bK (aO c st' β) w bG res x/\
   ∀k o,look k s.store=some o->o.row=false->look k st'=some o:=by
 obtain⟨vs,q,us,h1,hq,h2,h3⟩:=he
 obtain⟨a1,a2,β,a3,a4⟩:=hr
 refine⟨a1,?_⟩
 obtain⟨xs,hxs,hv,hlen⟩:=Fu hT a3 a4 (g:=fun x=>match x with
  |ResultVar.tmp t=>pure (a.tmps.getD t undef)
  |ResultVar.cell r t=>do let y <-asAddr (a.tmps.getD r undef);loadVar t y) (fun _=>rfl) (fun _ _=>rfl) h1 hq
 obtain⟨f1,f2,f3⟩:=Bd (l:=pick s.store (bH vs)) a3 (fun k o hk=>by
  rw[oS]at hk
  split at hk
  ·exact hk
  ·simp at hk) yC
 have hvs:cH (aO c (cM (fV (pick s.store (bH vs))) s.store) β) w β vs xs:=hv.mono f2.heap f2.keys
 have hus:=AM f1 f3 h2 hvs
 have hx:∃x,(results fn a.tmps).run P w=.ok x w/\bK (aO c (cM (fV (pick s.store (bH vs))) s.store) β) w bG res x:=by
  refine⟨if h:xs.length=1 then xs.toArray[0]'(by simpa using(show 0<xs.length by omega))else .tuple xs.toArray,?_,?_⟩
  ·have key:results fn a.tmps=(do
     let vs <-fn.results.mapM fun x=>match x with
      |ResultVar.tmp t=>pure (a.tmps.getD t undef)
      |ResultVar.cell r t=>do let y <-asAddr (a.tmps.getD r undef);loadVar t y
     pure (if h:vs.size=1 then vs[0]else Value.tuple vs)):=rfl
   rw[key,Sem.run_bind,Array.mapM_eq_mapM_toList,Sem.run_map,hxs]
   simp only[Result.andThen_ok,Sem.run_pure]
   congr 1
  ·unfold fK at h3
   split at h3
   ·rename_i u
    obtain⟨x,rfl,hx⟩:=hus.single
    simp only[List.length_cons,List.length_nil,Nat.zero_add,dite_true,List.getElem_toArray,List.getElem_cons_zero]
    obtain⟨cs,g1,g2⟩:=hx
    exact bw.bT ⟨cs,h3.2 _ _ _ g1,by rw[h3.1];exact g2⟩
   ·rename_i us' vs' hne
    have hl1:¬xs.length=1:=by
     intro hl1
     have:∀{us:List AV} {xs:List Value},cH (aO c (cM (fV (pick s.store (bH vs))) s.store) β) w bG us xs->us.length=xs.length:=by
      intro us
      induction us with
      |nil=>intro xs h;cases xs with
       |nil=>rfl
       |cons _ _=>exact h.elim
      |cons u us ih=>intro xs h;cases xs with
       |nil=>exact h.elim
       |cons x xs=>simp[ih h.2]
     have hl2:=this hus
     rw[hl1]at hl2
     match us,hl2,hne with
     |[u],_,hne=>exact hne u rfl
    simp only[hl1,dite_false]
    exact⟨xs,rfl,AL h3 hus⟩
   ·exact h3.elim
 obtain⟨x,hx1,hx2⟩:=hx
 refine⟨x,β,_,hx1,f1,hx2,fun k o hk hrow=>?_⟩
 rw[lN]
 have:dm (fV (pick s.store (bH vs))) k=none:=by
  have gen:∀l:aC,(∀o',look k l=some o'->o'.row=false)->(l.map (·.1)).Nodup->dm (fV l) k=none:=by
   intro l
   induction l with
   |nil=>intros;rfl
   |cons p l ih=>
    obtain⟨j,oj⟩:=p
    intro h hn
    simp only[List.map_cons,List.nodup_cons]at hn
    by_cases hjk:j=k
    ·subst hjk
     have hrow':=h oj (by simp[look])
     simp only[fV,hrow',Bool.false_and,Bool.false_eq_true,if_false]
     have hnl:look j l=none:=by
      cases hl:look j l with
      |none=>rfl
      |some o'=>
       exfalso
       apply hn.1
       have:∀l:aC,look j l=some o'->j∈l.map (·.1):=by
        intro l
        induction l with
        |nil=>simp[look]
        |cons q l ih=>
         obtain⟨i,b⟩:=q
         simp only[look]
         split
         ·rename_i hh
          intro _
          have:i=j:=by simpa using hh
          simp[this]
         ·intro h2
          simp only[List.map_cons,List.mem_cons]
          exact .inr (ih h2)
       exact this l hl
     exact ih (fun o' ho'=>by rw[hnl]at ho';simp at ho') hn.2
    ·have ih':=ih (fun o' ho'=>h o' (by simp[look,hjk,ho'])) hn.2
     simp only[fV]
     split
     ·simp only[dm,ih']
      simp[hjk]
     ·exact ih'
  refine gen _ (fun o' ho'=>?_) yC
  rw[oS]at ho'
  split at ho'
  ·rw[hk]at ho';simp only[ay]at ho';subst ho';exact hrow
  ·simp at ho'
 rw[this];exact hk
structure jI (P:Program) (f:FuncId) (fn:Func) (x:Code):Prop where
 get:P.funcs[f]?=some fn
 body:fn.body=some x
 name:(fn.name== "runtime.NumGoroutine")=false
 dst:cm fn.ntmps x=true
include hT in
theorem acq {f:FuncId} {fn:Func} {x:Code} (hf:jI P f fn x) {args:List AV} {r:dI} (hk:bH args=[]) (hlen:args.length<=fn.ntmps) (hpost:r.post=[])
  (h:r.need->∀c:Ctx,c.k0=bG->c.ro=none->ax P c fn.ntmps x ⟨aQ 0 args,[],0⟩ fun e s'=>(e=.normal\/e=.ret)/\Ends T fn r.res s') (K:Nat) (pre:aC):aS P f K args pre r:=by
 refine aS.frame (pre:=[]) ?_ (fun k o hk=>by simp[look]at hk)
 intro need
 refine⟨fun k o ho=>by rw[hpost]at ho;simp[look]at ho,fun c D D' β w vs hw0 hMw hrel hD hK hv=>.inl ⟨fn,hf.get,hf.name,by simp[hf.body],?_⟩⟩
 have hv0:=hv.bG hk
 have hM0:aO {c with k0:=bG,ro:=none} [] bG=aO c [] β:=by
  funext b
  simp[aO,look]
 have hlv:vs.length=args.length:=by
  have:∀{l:List AV} {xs:List Value},cH (aO c [] β) w β l xs->xs.length=l.length:=by
   intro l
   induction l with
   |nil=>intro xs h;cases xs with
    |nil=>rfl
    |cons _ _=>exact h.elim
   |cons u us ih=>intro xs h;cases xs with
    |nil=>exact h.elim
    |cons x xs=>simp[ih h.2]
  exact this hv
 have hstart:Rel {c with k0:=bG,ro:=none} fn.ntmps (fun k=>k<0) (aQ 0 args) [] {tmps:=vs.toArray++Array.replicate (fn.ntmps-vs.toArray.size) undef,defers:=[]} w:=by
  refine⟨.nil,by simp;omega,bG,?_,?_⟩
  ·exact {obj:=fun k o h=>by simp[look]at h,dS:=fun k o h=>by simp[look]at h,inj:=fun k k' o o' b N N' h=>by simp[look]at h,dom:=fun k x h=>by simp[bG]at h,keep:=fun k x h=>h,lt:=fun k b N h=>by simp[bG]at h,os:=hrel.os,tape:=hrel.tape,output:=hrel.output,size:=hrel.size,block:=hrel.block,gE:=hrel.gE,new:=fun k o b N h=>by simp[look]at h}
  ·rw[hM0]
   have:=DB (pre:=#[]) (post:=Array.replicate (fn.ntmps-vs.toArray.size) undef) hv0 rfl
   simpa using this
 refine callsIn_wide.1 (callsIn_of_wp_marks (F:=Fence.wide) (n:=3) hf.get hf.body trivial (wpIn_mono (h need {c with k0:=bG,ro:=none} rfl rfl _ w hstart) ?_))
 rintro e a' w9 ⟨ae,s',rfl,hr9,hex,hends⟩
 obtain⟨w',hr',hleave⟩:=Rel.leave (P:=P) (fn:=fn) (R:=fun e w'=>∃x,e=.returned x/\fo c [] D' β w (gu r.post) r.res x w') hr9
 obtain⟨hdef,x,β',st',hrun,hw',hvx,_⟩:=MH hT hends hr'
 have hO:fo c [] D' β w (gu r.post) r.res x w':=by
  rw[hpost]
  refine⟨β,?_,?_,?_⟩
  ·exact {obj:=fun k o h=>by simp[look,gu,cM]at h,dS:=fun k o h=>by simp[look,gu,cM]at h,inj:=fun k k' o o' b N N' h=>by simp[look,gu,cM]at h,dom:=fun k x h=>hD _ (hrel.dom k x h),keep:=hrel.keep,lt:=fun k b N h=>Nat.lt_of_lt_of_le (hrel.lt k b N h) (by have:=hw'.size;rw[<-hw0];exact this),os:=hw'.os,tape:=hw'.tape,output:=hw'.output,size:=hw'.size,block:=hw'.block,gE:=hw'.gE,new:=fun k o b N h=>by simp[look,gu,cM]at h}
  ·refine⟨fun b o hb ho=>⟨?_,hb⟩,fun k x hk=>hk⟩
   have hlt:b<c.w0.heap.size:=by rw[hw0];exact AG ho
   have:=hw'.block b hlt (fun hm=>hb (hMw b hm))
   rw[this]
   show c.w0.heap[b]?=_
   rw[hw0];exact ho
  ·refine hvx.mono (fun b o hb ho=>⟨ho,fun hm=>hb ?_⟩) (fun k x hk=>by simp[bG]at hk)
   rcases hm with hm|⟨k,o,N,h1,_⟩
   ·exact .inl hm
   ·simp[look,gu,cM]at h1
 rcases hex with rfl|rfl
 ·exact hleave x hrun ⟨x,rfl,hO⟩
 ·exact hleave x hrun ⟨x,rfl,hO⟩
include hT in
theorem kG {f:FuncId} {fn:Func} {x:Code} (hf:jI P f fn x) {args:List AV} {r:dI} (hk:bH args=[]) (hlen:args.length<=fn.ntmps) (hpost:r.post=[])
  (h:r.need->∀c:Ctx,c.k0=bG->ax P c fn.ntmps x ⟨aQ 0 args,[],0⟩ fun e s'=>(e=.normal\/e=.ret)/\Ends T fn r.res s') (K:Nat) (pre:aC):aS P f K args pre r:=
 acq hT hf hk hlen hpost (fun need c h0 _=>h need c h0) K pre
end funcs
end Go.Am
namespace Go.Am
open AV
inductive ag (α:Type) where
 |leaf (e:aq) (a:α)
 |aj (l:List Prop) (t:ag α)
 |fork (b:Bool) (t u:ag α)
namespace ag
variable {α β:Type}
def all (Q:aq->α->Prop):ag α->Prop
 |leaf e a=>Q e a
 |aj l t=>az l/\t.all Q
 |fork b t u=>(b=true->t.all Q)/\(b=false->u.all Q)
def need (l:List Prop) (t:ag α):ag α:=match l with
 |[]=>t
 |l=>aj l t
def bind (f:aq->α->Option (ag β)):ag α->Option (ag β)
 |leaf e a=>f e a
 |aj l t=>match t.bind f with
  |some u=>some (aj l u)
  |none=>none
 |fork b t u=>match t.bind f,u.bind f with
  |some t',some u'=>some (fork b t' u')
  |_,_=>none
theorem An {Q:aq->α->Prop} {l:List Prop} {t:ag α}:(need l t).all Q↔az l/\t.all Q:=by
 cases l with
 |nil=>simp[need,az]
 |cons p l=>exact Iff.rfl
theorem kr {f:aq->α->Option (ag β)} {Q:aq->β->Prop}:∀{t:ag α} {u:ag β},t.bind f=some u->u.all Q->t.all fun e a=>∃v,f e a=some v/\v.all Q
 |leaf e a,u,h,hu=>⟨u,h,hu⟩
 |aj l t,u,h,hu=>by
  simp only[bind]at h
  cases ht:t.bind f with
  |none=>rw[ht]at h;simp at h
  |some v=>
   rw[ht]at h
   simp only[ay]at h
   subst h
   exact⟨hu.1,kr ht hu.2⟩
 |fork b t u,v,h,hv=>by
  simp only[bind]at h
  cases ht:t.bind f with
  |none=>rw[ht]at h;simp at h
  |some t'=>
   cases hu:u.bind f with
   |none=>rw[ht,hu]at h;simp at h
   |some u'=>
    rw[ht,hu]at h
    simp only[ay]at h
    subst h
    exact⟨fun hb=>kr ht (hv.1 hb),fun hb=>kr hu (hv.2 hb)⟩
theorem gh {Q Q':aq->α->Prop} (h:∀e a,Q e a->Q' e a):∀{t:ag α},t.all Q->t.all Q'
 |leaf _ _,ht=>h _ _ ht
 |aj _ _,ht=>⟨ht.1,gh h ht.2⟩
 |fork _ _ _,ht=>⟨fun hb=>gh h (ht.1 hb),fun hb=>gh h (ht.2 hb)⟩
end ag
def Ao (forks:List Nat) (ops:List Oper):List Oper->Nat->List (Nat×Nat)
 |[],_=>[]
 |o::l,i=>match o.dst with
  |some d=>if(forks.contains d||(forks.contains (d+100000)||forks.contains (d+200000)))&&ops.any (fun p=>match p.guard with
    |some (g,_)=>g==i
    |none=>false)then(i,if forks.contains d then d else if forks.contains (d+100000)then d+100000 else d+200000)::Ao forks ops l (i+1)else Ao forks ops l (i+1)
  |none=>Ao forks ops l (i+1)
def oL (T:Types) (Γ:aX) (ops:Array Oper) (d:Bool) (s:aK):List (Nat×Nat)->List (Nat×Bool)->Option (ag aK)
 |[],orc=>match rP T Γ orc ops d s with
  |some (s',need)=>some (.need need (.leaf .normal s'))
  |none=>none
 |(g,t)::gs,orc=>match Nat.blt t 100000 with
  |false=>match Nat.blt t 200000 with
   |true=>oL T Γ ops d s gs ((g,true)::orc)
   |false=>oL T Γ ops d s gs ((g,false)::orc)
  |true=>match lF T Γ orc ops.toList (ops.toList.take (g+1)) 0 s with
   |some (s',_,_)=>match look t s'.cQ with
    |some (.bool b)=>match oL T Γ ops d s gs ((g,true)::orc),oL T Γ ops d s gs ((g,false)::orc)with
     |some x,some y=>some (.fork b x y)
     |_,_=>none
    |_=>oL T Γ ops d s gs orc
   |none=>none
def Wr (forks:List Nat):Operand->Nat
 |.tmp t=>if forks.contains t then 1 else if forks.contains (t+100000)then 2 else if forks.contains (t+200000)then 3 else 0
 |_=>0
def eV (T:Types) (Γ:aX) (forks:List Nat):Nat->Code->aK->Option (ag aK)
 |0,_,_=>none
 |n+1,c,s=>match c with
  |.skip=>some (.leaf .normal s)
  |.label _=>some (.leaf .normal s)
  |.region _ ops d=>oL T Γ ops d s (Ao forks ops.toList ops.toList 0) []
  |.seq x y=>match eV T Γ forks n x s with
   |some t=>t.bind fun e s'=>match e with
    |.normal=>eV T Γ forks n y s'
    |.exit i=>some (.leaf (.exit i) s')
    |.ret=>some (.leaf .ret s')
   |none=>none
  |.cond b x y=>match s.iw b with
   |some (.bool t)=>match Wr forks b with
    |1=>match eV T Γ forks n x s,eV T Γ forks n y s with
     |some u,some v=>some (.fork t u v)
     |_,_=>none
    |2=>match eV T Γ forks n x s with
     |some u=>some (.aj [t=true] u)
     |none=>none
    |3=>match eV T Γ forks n y s with
     |some u=>some (.aj [t=false] u)
     |none=>none
    |_=>match t with
     |true=>eV T Γ forks n x s
     |false=>eV T Γ forks n y s
   |_=>none
  |.block id x=>match eV T Γ forks n x s with
   |some t=>t.bind fun e s'=>match e with
    |.normal=>some (.leaf .normal s')
    |.exit j=>match j==id with
     |true=>some (.leaf .normal s')
     |false=>some (.leaf (.exit j) s')
    |.ret=>some (.leaf .ret s')
   |none=>none
  |.loop x=>match eV T Γ forks n x s with
   |some t=>t.bind fun e s'=>match e with
    |.normal=>eV T Γ forks n (.loop x) s'
    |.exit j=>some (.leaf (.exit j) s')
    |.ret=>some (.leaf .ret s')
   |none=>none
  |.exit id=>some (.leaf (.exit id) s)
  |.ret=>some (.leaf .ret s)
  |_=>none
section rules
variable {P:Program} {c:Ctx} {nt:Nat} {Q:aq->aK->Prop} {T:Types} (hT:fu P T) {Γ:aX} (hΓ:bq P Γ) (hm:P.follows .mixedOrders=true)
include hT hΓ hm in
theorem vP {id:Nat} {ops:Array Oper} {d:Bool} (hd:cm nt (.region id ops d)=true) {s:aK}:∀(gs:List (Nat×Nat)) (orc:List (Nat×Bool)) {t:ag aK},oL T Γ ops d s gs orc=some t->t.all Q->
  ax P c nt (.region id ops d) s Q
 |[],orc,t,h,ht=>by
  simp only[oL]at h
  cases hr:rP T Γ orc ops d s with
  |none=>rw[hr]at h;simp at h
  |some q=>
   obtain⟨s',need⟩:=q
   rw[hr]at h
   simp only[ay]at h
   subst h
   obtain⟨h1,h2⟩:=ag.An.1 ht
   exact .region hT hΓ hm hd hr h1 h2
 |(g,k)::gs,orc,t,h,ht=>by
  simp only[oL]at h
  split at h
  ·split at h
   ·exact vP hd gs _ h ht
   ·exact vP hd gs _ h ht
  ·split at h
   ·split at h
    ·split at h
     ·rename_i x y hx hy
      simp only[ay]at h
      subst h
      exact(Bool.eq_false_or_eq_true _).elim (fun hb=>vP hd gs _ hx (ht.1 hb)) (fun hb=>vP hd gs _ hy (ht.2 hb))
     ·simp at h
    ·exact vP hd gs _ h ht
   ·simp at h
def uF (P:Program) (c:Ctx) (nt:Nat) (x:Code) (s:aK) (Q:aq->aK->Prop):Prop:=
 ∀a w,Rel c nt (fun k=>k<s.next) s.cQ s.store a w->∀(fr:Frame) (k:List Item) (cs:List Frame),fr.roundOf=(iK c.ro).round->(iK c.ro).fn fr.fn->(iK c.ro).room (cs.length+1+3)->∃e a' w',(∃ae t,e=aq.qo ae/\Rel c nt (fun k=>k<t.next) t.cQ t.store a' w'/\Q ae t)/\
  ArrivesIn (Machine.fenced P (iK c.ro)) P (lone (fr.atR a (.code x::.inLoop x::k)) cs w) fr k cs e a' w'
theorem uF.loop {x:Code} {s:aK} (h:uF P c nt x s Q):ax P c nt (.loop x) s Q:=by
 intro a w hrel fr k cs h01 h02 h03
 obtain⟨e,a',w',g,harr⟩:=h a w hrel fr k cs h01 h02 h03
 exact⟨e,a',w',g,.of_steps (.one (fenced_calm h02 h03 rfl) stepR_loop) harr⟩
theorem uF.round {x:Code} {s:aK} (h:ax P c nt x s fun e s'=>match e with
  |.normal=>uF P c nt x s' Q
  |e=>Q e s'):uF P c nt x s Q:=by
 intro a w hrel fr k cs h01 h02 h03
 obtain⟨e,a1,w1,⟨ae,t,rfl,g1,g2⟩,harr⟩:=h a w hrel fr (.inLoop x::k) cs h01 h02 h03
 cases ae with
 |normal=>
  obtain⟨e2,a2,w2,hq2,harr2⟩:=g2 a1 w1 g1 fr k cs h01 h02 h03
  exact⟨e2,a2,w2,hq2,.of_steps (StepsIn.trans harr (.one (fenced_calm h02 h03 rfl) stepR_inLoop)) harr2⟩
 |exit i=>exact⟨_,a1,w1,⟨.exit i,t,rfl,g1,g2⟩,.pass (x:=.inLoop x) rfl (fun _ _=>.inl (by simp[aq.qo])) harr⟩
 |ret=>exact⟨_,a1,w1,⟨.ret,t,rfl,g1,g2⟩,.pass (x:=.inLoop x) rfl (fun _ _=>.inl (by simp[aq.qo])) harr⟩
include hT hΓ hm in
theorem lE {forks:List Nat}:∀(n:Nat) {x:Code} {s:aK} {Q:aq->aK->Prop},cm nt x=true->∀{t:ag aK},eV T Γ forks n x s=some t->t.all Q->ax P c nt x s Q
 |0,x,s,Q,_,t,h,_=>by simp[eV]at h
 |n+1,.skip,s,Q,_,t,h,ht=>by
  simp only[eV,ay]at h
  subst h;exact .skip ht
 |n+1,.label l,s,Q,_,t,h,ht=>by
  simp only[eV,ay]at h
  subst h;exact .label ht
 |n+1,.exit i,s,Q,_,t,h,ht=>by
  simp only[eV,ay]at h
  subst h;exact .exit ht
 |n+1,.ret,s,Q,_,t,h,ht=>by
  simp only[eV,ay]at h
  subst h;exact .ret ht
 |n+1,.region i ops d,s,Q,hd,t,h,ht=>by
  simp only[eV]at h
  exact vP hT hΓ hm hd _ _ h ht
 |n+1,.seq x y,s,Q,hd,t,h,ht=>by
  simp only[cm,Bool.and_eq_true]at hd
  simp only[eV]at h
  cases hx:eV T Γ forks n x s with
  |none=>rw[hx]at h;simp at h
  |some u=>
   rw[hx]at h
   refine .seq (lE n hd.1 hx (ag.gh ?_ (ag.kr h ht)))
   rintro e s' ⟨v,h1,h2⟩
   cases e with
   |normal=>exact lE n hd.2 h1 h2
   |exit i=>simp only[ay]at h1;subst h1;exact h2
   |ret=>simp only[ay]at h1;subst h1;exact h2
 |n+1,.cond b x y,s,Q,hd,t,h,ht=>by
  simp only[cm,Bool.and_eq_true]at hd
  simp only[eV]at h
  split at h
  ·rename_i t' hb
   split at h
   ·split at h
    ·rename_i u v hu hv
     simp only[ay]at h
     subst h
     exact .cond hb (fun h'=>lE n hd.1 hu (ht.1 h')) (fun h'=>lE n hd.2 hv (ht.2 h'))
    ·simp at h
   ·split at h
    ·rename_i u hu
     simp only[ay]at h
     subst h
     have hb':t'=true:=ht.1
     exact .cond hb (fun _=>lE n hd.1 hu ht.2) (fun h'=>by rw[hb']at h';simp at h')
    ·simp at h
   ·split at h
    ·rename_i u hu
     simp only[ay]at h
     subst h
     have hb':t'=false:=ht.1
     exact .cond hb (fun h'=>by rw[hb']at h';simp at h') (fun _=>lE n hd.2 hu ht.2)
    ·simp at h
   ·split at h
    ·exact .cond hb (fun _=>lE n hd.1 h ht) (fun h'=>by simp at h')
    ·exact .cond hb (fun h'=>by simp at h') (fun _=>lE n hd.2 h ht)
  ·simp at h
 |n+1,.block id x,s,Q,hd,t,h,ht=>by
  simp only[cm]at hd
  simp only[eV]at h
  cases hx:eV T Γ forks n x s with
  |none=>rw[hx]at h;simp at h
  |some u=>
   rw[hx]at h
   refine .block (lE n hd hx (ag.gh ?_ (ag.kr h ht)))
   rintro e s' ⟨v,h1,h2⟩
   cases e with
   |normal=>simp only[ay]at h1;subst h1;exact h2
   |exit j=>
    simp only at h1 ⊢
    cases hj:j==id with
    |true=>
     rw[hj]at h1
     simp only[ay]at h1;subst h1
     rw[if_pos (by simpa using hj)];exact h2
    |false=>
     rw[hj]at h1
     simp only[ay]at h1;subst h1
     rw[if_neg (by simpa using hj)];exact h2
   |ret=>simp only[ay]at h1;subst h1;exact h2
 |n+1,.loop x,s,Q,hd,t,h,ht=>by
  have key:∀(m:Nat) (s:aK) (t:ag aK),m<=n+1->eV T Γ forks m (.loop x) s=some t->t.all Q->uF P c nt x s Q:=by
   intro m
   induction m with
   |zero=>intro s t _ h;simp[eV]at h
   |succ m ihm=>
    intro s t hmn h ht
    simp only[eV]at h
    cases hx:eV T Γ forks m x s with
    |none=>rw[hx]at h;simp at h
    |some u=>
     rw[hx]at h
     have hlen:m<=n:=aa
     refine .round (lE m (by simpa [cm]using hd) hx (ag.gh ?_ (ag.kr h ht)))
     rintro e s' ⟨v,h1,h2⟩
     cases e with
     |normal=>exact ihm s' v aa h1 h2
     |exit i=>simp only[ay]at h1;subst h1;exact h2
     |ret=>simp only[ay]at h1;subst h1;exact h2
  exact(key (n+1) s t bz h ht).loop
 |n+1,.scope x,s,Q,_,t,h,_=>by simp[eV]at h
 |n+1,.goto l,s,Q,_,t,h,_=>by simp[eV]at h
 |n+1,.refuse l,s,Q,_,t,h,_=>by simp[eV]at h
 |n+1,.rangeFunc _ _ _ _,s,Q,_,t,h,_=>by simp[eV]at h
def AT (s:aK) (t:Nat):AV:=match look t s.cQ with
 |some v=>v
 |none=>.tuple []
def lS (s:aK):List Nat->List AV
 |[]=>[]
 |t::l=>AT s t::lS s l
def agz (st:aC) (ks:List Nat):List Nat:=ks++nj st ks
def bA (ls:List Nat) (s:aK):Option (List AV×aC):=
 some (lS s ls,pick s.store (agz s.store (bH (lS s ls))))
def JO (ls:List Nat) (e:aq) (s:aK):Option (ag (List AV×aC)):=
 match bA ls s with
 |some v=>some (.leaf e v)
 |none=>none
def kH (T:Types) (fn:Func) (e:aq) (s:aK):Option (ag (List AV)):=
 match e with
 |.exit _=>none
 |e=>match iW T s fn.results.toList with
  |some (vs,q)=>match fA (kY (pick s.store (bH vs))) vs with
   |some us=>some (.need q (.leaf e us))
   |none=>none
  |none=>none
def bU (T:Types) (Γ:aX) (forks:List Nat) (n:Nat) (fn:Func) (x:Code) (s:aK):Option (ag (List AV)):=
 match eV T Γ forks n x s with
 |some t=>t.bind (kH T fn)
 |none=>none
include hT hΓ hm in
theorem ax.ends {fn:Func} {x:Code} {s:aK} {forks:List Nat} (n:Nat) (hd:cm nt x=true) {t:ag (List AV)} (hc:bU T Γ forks n fn x s=some t) {res:AV} (h:t.all fun _ us=>fK us res):
  ax P c nt x s fun e s'=>(e=.normal\/e=.ret)/\Ends T fn res s':=by
 unfold bU at hc
 cases hx:eV T Γ forks n x s with
 |none=>rw[hx]at hc;simp at hc
 |some u=>
  rw[hx]at hc
  refine lE hT hΓ hm n hd hx (ag.gh ?_ (ag.kr hc h))
  rintro e s' ⟨v,h1,h2⟩
  unfold kH at h1
  have key:∀{e':aq},(match iW T s' fn.results.toList with
    |some (vs,q)=>match fA (kY (pick s'.store (bH vs))) vs with
     |some us=>some (ag.need q (.leaf e' us))
     |none=>none
    |none=>none)=some v->Ends T fn res s':=by
   intro e' h1
   cases hr:iW T s' fn.results.toList with
   |none=>rw[hr]at h1;simp at h1
   |some p=>
    obtain⟨vs,q⟩:=p
    rw[hr]at h1
    simp only at h1
    cases hf:fA (kY (pick s'.store (bH vs))) vs with
    |none=>rw[hf]at h1;simp at h1
    |some us=>
     rw[hf]at h1
     simp only[ay]at h1
     subst h1
     obtain⟨g1,g2⟩:=ag.An.1 h2
     exact⟨vs,q,us,hr,g1,hf,g2⟩
  cases e with
  |normal=>exact⟨.inl rfl,key h1⟩
  |ret=>exact⟨.inr rfl,key h1⟩
  |exit i=>simp at h1
include hT hΓ hm in
theorem bX {f:FuncId} {fn:Func} {x:Code} (hf:jI P f fn x) {args:List AV} {r:dI} (hk:bH args=[]) (hlen:args.length<=fn.ntmps) (hpost:r.post=[]) {forks:List Nat} (n:Nat) {t:ag (List AV)}
  (hc:bU T Γ forks n fn x ⟨aQ 0 args,[],0⟩=some t) (h:r.need->t.all fun _ us=>fK us r.res) (K:Nat) (pre:aC):aS P f K args pre r:=
 kG hT hf hk hlen hpost (fun hn _ _=>.ends hT hΓ hm n hf.dst hc (h hn)) K pre
end rules
end Go.Am
namespace Go.Am
open AV
theorem Fc {v:AV}:bH [v]=keys v:=by simp[bH]
theorem nS {ρ:Nat->Option Nat} {u v:AV} (hk:keys u=[]) (h:bh u v):gz ρ u v:=by
 refine⟨h.1,fun M w β cs hc=>?_⟩
 have:=h.2 M w cs (BY hc (by rw[Fc,hk]))
 exact this.mono (fun b o h1 h2=>⟨h2,h1⟩) _ fun k x hx=>by simp[bG]at hx
theorem gy {ρ:Nat->Option Nat} {u:AV} (hk:keys u=[]):gz ρ u u:=nS hk (.refl u)
theorem gQ {ρ:Nat->Option Nat} {k:IntKind} {a b:Int} (h:a=b):gz ρ (.int k a) (.int k b):=h▸gy (by simp[keys])
theorem cP {ρ:Nat->Option Nat} {k k2 es s s2 n n2:Nat} (h:ρ k2=some k) (hs:s=s2) (hn:n=n2):gz ρ (.own k es s n) (.own k2 es s2 n2):=by
 subst hs hn
 refine⟨rfl,fun M w β cs hc=>?_⟩
 cases hc with
 |own h1 h2 h3 h4 h5 h6=>
  cases h6
  exact .own (by simp[h,h1]) h2 h3 h4 h5 .nil
 |own0 h5 h6=>cases h6;exact .own0 h5 .nil
theorem qc {ρ:Nat->Option Nat} {k es:Nat} (h:0<es):gz ρ .nil (.own k es 0 0):=by
 refine⟨rfl,fun M w β cs hc=>?_⟩
 cases hc with
 |vnil h1=>cases h1;exact .own0 h .nil
theorem oe {ρ:Nat->Option Nat} {k k2 idx es off:Nat} {p:List Nat} (h:ρ k2=some k):gz ρ (.ptr k idx es off p) (.ptr k2 idx es off p):=by
 refine⟨rfl,fun M w β cs hc=>?_⟩
 cases hc with
 |ptr h1 h6=>
  cases h6
  exact .ptr (by simp only[h,Option.bind_some];exact h1) .nil
theorem bh.trans {a b c:AV} (h:bh a b) (h':bh b c):bh a c:=⟨h'.1.trans h.1,fun M w cs hc=>h'.2 M w cs (h.2 M w cs hc)⟩
theorem dX {a b:AV} (h:a=b):bh a b:=h▸.refl a
theorem bS {k:IntKind} {a b:Int} (h:a=b):bh (.int k a) (.int k b):=h▸.refl _
theorem fF {a b:Bool} (h:a=b):bh (.bool a) (.bool b):=h▸.refl _
theorem B5 {M:Nat->Prop} {w:World}:∀{us vs:List AV} {cs:List Value},fR us vs->aN M w bG us cs->aN M w bG vs cs
 |[],[],_,_,h=>h
 |u::us,v::vs,cs,hl,h=>by
  obtain⟨c1,c2,rfl,h1,h2⟩:=h.split
  exact(hl.1.2 M w c1 h1).cons (B5 hl.2 h2)
 |[],_::_,_,h,_=>h.elim
 |_::_,[],_,h,_=>h.elim
theorem cL {us vs:List AV} (h:fR us vs):bh (.agg us) (.agg vs):=by
 refine⟨rfl,fun M w cs hc=>?_⟩
 cases hc with
 |agg h1 h2=>cases h2;exact .agg (B5 h h1) .nil
theorem fB {es n:Nat} {f g:Nat->AV} (h:∀i,i<n->bh (f i) (g i)):bh (.ak es n f) (.ak es n g):=by
 refine⟨rfl,fun M w cs hc=>?_⟩
 cases hc with
 |ak h1 h2 h3 h4 h5 h6=>cases h6;exact .ak h1 h2 h3 h4 (fun i hi=>(h i hi).2 _ _ _ (h5 i hi)) .nil
theorem tu {es n m:Nat} {f g:Nat->AV} (hn:n=m) (h:∀i,i<n->f i=g i):bh (.ak es n f) (.ak es m g):=hn▸fB fun i hi=>dX (h i hi)
theorem ag6 {N i:Nat} {v:Value} (h:(uj N)[i]?=some v):i<nl N/\v=.int .u32 (aD N i):=by
 simp only[uj,List.getElem?_map]at h
 rw[Option.map_eq_some_iff]at h
 obtain⟨a,h1,h2⟩:=h
 by_cases hi:i<nl N
 ·rw[List.getElem?_range hi]at h1
  simp only[ay]at h1
  subst h1
  exact⟨hi,h2.symm⟩
 ·rw[List.getElem?_eq_none (by simpa using hi)]at h1
  simp at h1
def aB (z:Nat->Nat):Nat->AV:=fun i=>.int .u32 (z i:Nat)
theorem mR {n N:Nat} {f:Nat->AV} (hn:nl N=n) (hf:∀i,i<n->f i=.int .u32 (aD N i:Nat)):bh (.ak 1 n f) (.mag N):=by
 subst hn
 refine⟨rfl,fun M w cs hc=>?_⟩
 cases hc with
 |ak h1 h2 h3 h4 h5 h6=>
  rename_i base cap cs cf
  cases h6
  have hcf:∀i,i<nl N->cf i=[.int .u32 (aD N i)]:=fun i hi=>by
   have:=h5 i hi
   rw[hf i hi]at this
   revert this
   generalize cf i=l
   intro this
   cases this with
   |int h=>cases h;rfl
  refine .mag ?_ h3 .nil
  rcases h1 with h1|⟨b,o,rfl,hm⟩
  ·refine .inl ?_
   unfold nl at h1
   split at h1
   ·assumption
   ·omega
  ·by_cases h0:nl N=0
   ·refine .inl ?_
    unfold nl at h0
    split at h0
    ·assumption
    ·omega
   ·refine .inr ⟨b,o,rfl,?_⟩
    obtain⟨c,ty,fr,g1,g2,g3⟩:=hm 0 aa
    refine⟨c,ty,fr,g1,g2,fun i v hv=>?_⟩
    obtain⟨hi,rfl⟩:=ag6 hv
    obtain⟨c',ty',fr',g1',g2',g3'⟩:=hm i hi
    rw[g1]at g1'
    simp only[ay,Obj.cells.injEq]at g1'
    obtain⟨rfl,rfl,rfl⟩:=g1'
    have:=g3' 0 _ (by rw[hcf i hi];rfl)
    simpa using this
theorem Ir {N n:Nat} {f:Nat->AV} (hn:n=nl N) (hf:∀i,i<n->f i=.int .u32 (aD N i:Nat)):bh (.mag N) (.ak 1 n f):=by
 subst hn
 refine⟨rfl,fun M w cs hc=>?_⟩
 cases hc with
 |mag h1 h2 h3=>
  cases h3
  refine .ak (cf:=fun i=>[.int .u32 (aD N i)]) ?_ aa h2 (fun _ _=>rfl) (fun i hi=>by rw[hf i hi];exact .int .nil) .nil
  rcases h1 with rfl|⟨b,o,rfl,c,ty,fr,g1,g2,g3⟩
  ·exact .inl (by simp[nl])
  ·refine .inr ⟨b,o,rfl,fun i hi=>⟨c,ty,fr,g1,g2,fun j v hj=>?_⟩⟩
   cases j with
   |zero=>
    simp only[List.getElem?_cons_zero,ay]at hj
    subst hj
    have:=g3 i _ (A5 hi)
    simpa using this
   |succ j=>simp at hj
theorem iJ {es:Nat} {f:Nat->AV} (h:0<es):bh .nil (.ak es 0 f):=by
 refine⟨rfl,fun M w cs hc=>?_⟩
 cases hc with
 |vnil h1=>
  cases h1
  exact .ak (cf:=fun _=>[]) (.inl rfl) h aa (fun i hi=>aa) (fun i hi=>aa) .nil
theorem lO:bh .nil (.mag 0):=(iJ (es:=1) (f:=fun _=>.nil) aa).trans (mR (by simp[nl]) fun i hi=>aa)
theorem tI {b:Bool} {x y:Nat} {q:Rat} {n:Nat} (hs:Sz q n) (hb:b=decide (q<0)) (hx:x=q.num.natAbs) (hy:y=if q.den=1 then 0 else q.den):bh (.agg [.bool b,.mag x,.mag y]) (.rat q n):=by
 subst hb hx
 refine⟨rfl,fun M w cs hc=>?_⟩
 cases hc with
 |agg h1 h2=>
  cases h2
  cases h1 with
  |bool h1=>
   obtain⟨c1,c2,rfl,h1,h2⟩:=h1.split
   have l1:=h1.length
   have l2:=h2.length
   simp only[sizes,size]at l1 l2
   match c1,c2,l1,l2 with
   |[x],[y],_,_=>exact .rat hs h1 (hy▸h2) .nil
theorem IQ {q:Rat} {n:Nat}:bh (.rat q n) (.agg (AV.kids (.rat q n))):=by
 refine⟨rfl,fun M w cs hc=>?_⟩
 cases hc with
 |rat hs h1 h2 h3=>cases h3;exact .agg (.bool (h1.cons h2)) .nil
theorem ey {q:Rat} {n m:Nat} (h:n<=m):bh (.rat q n) (.rat q m):=by
 refine⟨rfl,fun M w cs hc=>?_⟩
 cases hc with
 |rat hs h1 h2 h3=>
  cases h3
  exact .rat ⟨Nat.lt_of_lt_of_le hs.1 (Nat.pow_le_pow_right aa h),Nat.lt_of_lt_of_le hs.2 (Nat.pow_le_pow_right aa h)⟩ h1 h2 .nil
def aA {α:Type}:List Nat->List α->List (Nat×α)
 |k::ks,a::l=>(k,a)::aA ks l
 |_,_=>[]
def gO (ρ:Nat->Option Nat):List AV->List AV->Prop
 |[],[]=>True
 |u::us,v::vs=>(u.isTuple=false/\gz ρ u v)/\gO ρ us vs
 |_,_=>False
def o9 (ρ:Nat->Option Nat) (os:aC):aC->Prop
 |[]=>True
 |(k2,o2)::ps=>(∃k1 o1,ρ k2=some k1/\look k1 os=some o1/\dK ρ o1 o2)/\o9 ρ os ps
theorem OB {s:aK} {t:Nat} (h:(AT s t).isTuple=false):look t s.cQ=some (AT s t):=by
 unfold AT at h ⊢
 split
 ·assumption
 ·rename_i hn
  rw[hn]at h
  simp[isTuple]at h
theorem GY {s:aK}:∀{ls:List Nat} {vs:List AV} {ρ:Nat->Option Nat},gO ρ (lS s ls) vs->∀t v,look t (aA ls vs)=some v->∃u,look t s.cQ=some u/\u.isTuple=false/\gz ρ u v
 |[],vs,ρ,_,t,v,h=>by simp[aA,look]at h
 |x::ls,vs,ρ,hle,t,v,h=>by
  cases vs with
  |nil=>exact hle.elim
  |cons b vs=>
   simp only[aA,look]at h
   split at h
   ·rename_i he
    have:x=t:=by simpa using he
    subst this
    simp only[ay]at h
    subst h
    exact⟨_,OB hle.1.1,hle.1.1,hle.1.2⟩
   ·exact GY hle.2 t v h
theorem D6 {os:aC}:∀{ps:aC} {ρ:Nat->Option Nat},o9 ρ os ps->∀k2 o2,look k2 ps=some o2->∃k1 o1,ρ k2=some k1/\look k1 os=some o1/\dK ρ o1 o2
 |[],_,_,_,_,h=>by simp[look]at h
 |(j,b)::ps,ρ,hle,t,v,h=>by
  simp only[look]at h
  split at h
  ·rename_i he
   have:j=t:=by simpa using he
   subst this
   simp only[ay]at h
   subst h
   exact hle.1
  ·exact D6 hle.2 t v h
def bC (l:List (Nat×Nat)):Nat->Option Nat:=fun k=>look k l
def jE (nx:Nat) (l:List (Nat×Nat)):Bool:=l.all fun p=>decide (p.1<nx)&&l.all fun q=>p.2!=q.2||p.1==q.1
theorem rK {α:Type} {k:Nat} {a:α}:∀{l:List (Nat×α)},look k l=some a->(k,a)∈l
 |[],h=>by simp[look]at h
 |(j,b)::l,h=>by
  simp only[look]at h
  split at h
  ·rename_i he
   have:j=k:=by simpa using he
   subst this
   simp only[ay]at h
   subst h
   simp
  ·exact List.mem_cons_of_mem _ (rK h)
def yS (nx:Nat) (ρ:Nat->Option Nat) (os:aC):aC->Prop
 |[]=>True
 |(k2,o2)::ps=>((∃k1 o1,ρ k2=some k1/\look k1 os=some o1/\dK ρ o1 o2)\/(ρ k2=none/\vw o2/\k2<nx))/\yS nx ρ os ps
theorem o9.Oq {nx:Nat} {ρ:Nat->Option Nat} {os:aC}:∀{ps:aC},o9 ρ os ps->yS nx ρ os ps
 |[],_=>trivial
 |(_,_)::_,h=>⟨.inl h.1,o9.Oq h.2⟩
theorem Iq {nx:Nat} {os:aC}:∀{ps:aC} {ρ:Nat->Option Nat},yS nx ρ os ps->∀k2 o2,look k2 ps=some o2->(∃k1 o1,ρ k2=some k1/\look k1 os=some o1/\dK ρ o1 o2)\/(ρ k2=none/\vw o2/\k2<nx)
 |[],_,_,_,_,h=>by simp[look]at h
 |(j,b)::ps,ρ,hle,t,v,h=>by
  simp only[look]at h
  split at h
  ·rename_i he
   have:j=t:=by simpa using he
   subst this
   simp only[ay]at h
   subst h
   exact hle.1
  ·exact Iq hle.2 t v h
theorem LU {c:Ctx} {s':aK} {ls:List Nat} {us vs:List AV} {os ps:aC} {nx:Nat} (rl:List (Nat×Nat)) (hv:bA ls s'=some (us,os)) (hk0:∀k x,c.k0 k=some x->look k rl=some k) (hr:jE nx rl=true)
  (hs:gO (bC rl) us vs) (ho:yS nx (bC rl) os ps):∃ρ,Le c ρ s' ⟨aA ls vs,ps,nx⟩:=by
 unfold bA at hv
 ·simp only[ay,Prod.mk.injEq]at hv
  obtain⟨rfl,rfl⟩:=hv
  have hall:∀p∈rl,p.1<nx/\∀q∈rl,p.2=q.2->p.1=q.1:=fun p hp=>by
   have:=List.all_eq_true.1 hr p hp
   simp only[Bool.and_eq_true,bk]at this
   refine⟨this.1,fun q hq he=>?_⟩
   have h3:=List.all_eq_true.1 this.2 q hq
   simpa [he]using h3
  refine⟨bC rl,?_,GY hs,fun k2 o2 hk=>?_,fun k2 k1 hk=>(hall _ (rK hk)).1,hk0⟩
  ·intro a b k ha hb
   exact(hall _ (rK ha)).2 _ (rK hb) rfl
  ·refine(Iq ho k2 o2 hk).imp (fun⟨k1,o1,g1,g2,g3⟩=>⟨k1,o1,g1,?_,g3⟩) id
   rw[oS]at g2
   split at g2
   ·exact g2
   ·simp at g2
theorem dL {c:Ctx} {s':aK} {ls:List Nat} {us vs:List AV} {os ps:aC} {nx:Nat} (rl:List (Nat×Nat)) (hv:bA ls s'=some (us,os)) (hk0:c.k0=bG) (hr:jE nx rl=true)
  (hs:gO (bC rl) us vs) (ho:o9 (bC rl) os ps):∃ρ,Le c ρ s' ⟨aA ls vs,ps,nx⟩:=
 LU rl hv (fun k x hk=>by rw[hk0]at hk;simp[bG]at hk) hr hs ho.Oq
theorem jR {ρ:Nat->Option Nat} {r w:Bool} {es n m:Nat} {f g:Nat->AV} (hn:m=n) (h:∀i,i<n->gz ρ (f i) (g i)):dK ρ ⟨r,w,es,n,f⟩ ⟨r,w,es,m,g⟩:=⟨rfl,rfl,rfl,hn,h⟩
theorem iD {P:Program} {f:FuncId} {K:Nat} {args args':List AV} {r:dI} (hf:aS P f K args' [] r) (hk:bH args=[]) (h:fR args args') (pre:aC):aS P f K args pre r:=by
 refine aS.frame (pre:=[]) ?_ (fun k o hk=>by simp[look]at hk)
 intro need
 obtain⟨h1,h2⟩:=hf need
 refine⟨h1,fun c D D' β w vs hw0 hMw hrel hD hK hv=>h2 c D D' β w vs hw0 hMw hrel hD hK ?_⟩
 have h3:=AL h (hv.bG hk)
 exact h3.mono (fun b o h1 h2=>⟨h2,h1⟩) fun k x hx=>by simp[bG]at hx
def bY (g:List AV->Option dI):Spec:=fun _ args pre=>match fA pre args with
 |some ar=>match g ar with
  |some r=>match r.post with
   |[]=>some r
   |_=>none
  |none=>none
 |none=>none
mutual
theorem HV {pre:aC}:∀{v u:AV},dj pre v=some u->keys u=[]
 |.bool _,u,h=>by simp only[dj,ay]at h;subst h;rfl
 |.int _ _,u,h=>by simp only[dj,ay]at h;subst h;rfl
 |.rat _ _,u,h=>by simp only[dj,ay]at h;subst h;rfl
 |.mag _,u,h=>by simp only[dj,ay]at h;subst h;rfl
 |.ak _ _ _,u,h=>by simp only[dj,ay]at h;subst h;rfl
 |.eR _ _ _ _,u,h=>by simp only[dj,ay]at h;subst h;rfl
 |.nil,u,h|.void,u,h|.str _,u,h=>by simp only[dj,ay]at h;subst h;rfl
 |.bg _,u,h=>by simp only[dj,ay]at h;subst h;rfl
 |.ptr _ _ _ _ _,u,h=>by simp[dj]at h
 |.tuple _,u,h=>by simp[dj]at h
 |.bO c v,u,h=>by
  simp only[dj]at h
  split at h
  ·rename_i m hm
   simp only[ay]at h;subst h
   simp only[keys];exact HV hm
  ·simp at h
 |.func f l,u,h=>by
  simp only[dj]at h
  split at h
  ·rename_i m hm
   split at h
   ·simp only[ay]at h;subst h
    simp only[keys];exact yU hm
   ·simp at h
  ·simp at h
 |.own k es s n,u,h=>by
  simp only[dj]at h
  split at h
  ·split at h
   ·simp only[ay]at h;subst h;rfl
   ·simp at h
  ·simp at h
 |.agg l,u,h=>by
  simp only[dj]at h
  split at h
  ·rename_i m hm
   simp only[ay]at h;subst h
   simp only[keys];exact yU hm
  ·simp at h
theorem yU {pre:aC}:∀{l m:List AV},fA pre l=some m->bH m=[]
 |[],m,h=>by simp only[fA,ay]at h;subst h;rfl
 |a::l,m,h=>by
  simp only[fA]at h
  split at h
  ·rename_i b m' h1 h2
   simp only[ay]at h;subst h
   simp only[bH,HV h1,yU h2,List.append_nil]
  ·simp at h
end
theorem cF {P:Program} {f:FuncId} {g:List AV->Option dI} (h:∀K args r,bH args=[]->g args=some r->r.post=[]->aS P f K args [] r):
  ∀K args pre r,bY g K args pre=some r->aS P f K args pre r:=by
 intro K args pre r hg
 unfold bY at hg
 split at hg
 ·rename_i ar has
  split at hg
  ·rename_i r' hr'
   split at hg
   ·rename_i hp
    simp only[ay]at hg
    subst hg
    have hf:=h K ar r' (yU has) hr' hp
    intro need
    obtain⟨h1,h2⟩:=hf need
    refine⟨fun k o ho=>by rw[hp]at ho;simp[look]at ho,fun c D D' β w vs hw0 hMw hrel hD hK hv=>?_⟩
    have hv':cH (aO c pre β) w bG ar vs:=AM hrel (fun _ _ h=>h) has hv
    exact(hf.frame (pre':=pre) (fun k o hk=>by simp[look]at hk)).use need hrel (fun _ _ h=>h) hD hK (hv'.mono (fun b o h1 h2=>⟨h2,h1⟩) fun k x hx=>by simp[bG]at hx)
   ·simp at hg
  ·simp at hg
 ·simp at hg
theorem aL {ρ:Nat->Option Nat} {u:AV} (h1:u.isTuple=false:=by exact rfl) (h2:keys u=[]:=by exact rfl):u.isTuple=false/\gz ρ u u:=⟨h1,gy h2⟩
abbrev aU (P:Program) (s:Spec) (f:FuncId):Prop:=∀K args pre r,s K args pre=some r->aS P f K args pre r
end Go.Am
