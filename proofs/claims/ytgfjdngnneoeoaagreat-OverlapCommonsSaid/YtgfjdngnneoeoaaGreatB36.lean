/- vector: Det, Orient2, Orient3, Through, Side, Volume, Turn, Apply, transposed, Identity. -/
import Derived.Test.YtgfjdngnneoeoaaGreatB35
set_option linter.unusedVariables false
namespace Go.Am.B
open Go Go.Am.N AV
def n1 {α:Type} (a:α×Nat):List Prop:=[a.2<2^38]
theorem BY {x y z:Rat} {a b c k:Nat} {v:V3} (h1:x=v.x) (h2:y=v.y) (h3:z=v.z) (ka:a<=k) (kb:b<=k) (kc:c<=k):bg (.agg [.rat x a,.rat y b,.rat z c]) (vA v k):=
 cz ⟨bI h1 ka,bI h2 kb,bI h3 kc,trivial⟩
theorem oX {u v:V3}:gr u v=true↔u=v:=by
 unfold gr
 simp only[Bool.and_eq_true,bz]
 exact⟨fun h=>V3.ext h.1 h.2.1 h.2.2,fun h=>by subst h;exact⟨rfl,rfl,rfl⟩⟩
def n3 {α β γ:Type} (a:α×Nat) (b:β×Nat) (c:γ×Nat):List Prop:=[a.2<2^34,b.2<2^34,c.2<2^34]
def o6 (u v w:V3):V3:=tJ (bV v u) (bV w u)
def yG (u v w:V3):Pl:=⟨o6 u v w,dot (o6 u v w) u⟩
def iM (u v w:V3):Int:=if gr (o6 u v w) v0=true then 9 else 0
def IM (a b c:V3×Nat):AV:=.tuple [aK (yG a.1 b.1 c.1) (3*(2*(b.2+c.2+2*a.2+2)+1+a.2)+4),.int .i64 (iM a.1 b.1 c.1)]
end Go.Am.B
