import Derived.Test.YtljbbjpbefjpiaaGreatDoorPH1
namespace Go.Proofs.YtljbbjpbefjpiaaGreatDoor.Abs
open Go.RowKit
section
variable {m:M} {p q:Pa} {off n:Nat} {cs:List V}
end
section
variable {P:Program} {c c':Conc} {m m':M} {w w':World} {q:Pa}
end
set_option linter.all false
section
variable {α:Type} {h:Hp} {v:V} {f:α->List V} {sz:Nat} {l:List α} {id:Pa}
end
attribute [go_sem] putH_at
theorem vt_done {q p:Pa} {m Y:M} {cs:List V} {h:Hp} (hF:Fr q p m Y) (hq:¬ q <:+ p) (hb:Y.blk p=some cs) (hh:Y.hp=h):∃vr,m.back q Y=m.ck p cs h vr:=⟨Y.ver p,by rw [hF.to hq hb,hh]⟩
