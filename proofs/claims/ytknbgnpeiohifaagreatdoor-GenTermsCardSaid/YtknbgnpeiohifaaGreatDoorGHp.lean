import Derived.Test.YtknbgnpeiohifaaGreatDoorGVs
import Derived.Test.YtknbgnpeiohifaaGreatDoorGPx
namespace Go.Proofs.YtknbgnpeiohifaaGreatDoor.Abs
open Go.RowKit
section
variable {h:Hp} {W A:Pa} {AS:List Pa} {LS:List Nat} {ws rs ws':List Int} {hs hs':List (List Int)}
end
section
variable {m:M} {p0 p1 q:Pa} {c0 c1 c0' c1':List V} {z z':Nat} {h h':Hp}
theorem Mr:m.seth m.hp=m:=rI rfl
end
set_option linter.all false
def Jz (q:Pa) (h h':Hp):Hp:=λi=>if q.isSuffixOf i then none else h' i
theorem SC.hpq {P:Program} {f:FuncId} {args:List V} {q:Pa} {m:M} {R:V->M->Prop} (h:SC P f args q m (λv m'=>R v (m'.seth (Jz q m.hp m'.hp)))):SC P f args q m R:=by
 intro c xs w h1 h2 h3
 have key:∀e w',HB q c m w (λv m'=>R v (m'.seth (Jz q m.hp m'.hp))) e w'->HB q c m w R e w':=by
  rintro e w' ⟨x,c',r,m',e1,hR,g2,g3,g4⟩
  have hh:∀i vs,Jz q m.hp m'.hp i=some vs->m'.hp i=some vs:=by
   intro i vs hi;unfold Jz at hi
   split at hi
   ·cases hi
   ·exact hi
  obtain ⟨k1,k2⟩:=g2.sub (m':=m'.seth (Jz q m.hp m'.hp)) rfl rfl (λid vs hv=>⟨vs,hv,λ_ h=>h⟩) (λs hs=>by
   cases s with
   | anon i j=>exact hs
   | cell i o v=>exact hs
   | priv i=>
     have hs':(Jz q m.hp m'.hp i).isSome=true:=hs;obtain ⟨vs,hv⟩:=Option.isSome_iff_exists.1 hs';show (m'.hp i).isSome=true;rw [hh i vs hv];rfl) hh
  exact ⟨x,c',r,_,e1,hR,k1,g3.trans (k2 q),g4⟩
 rcases h c xs w h1 h2 h3 with ⟨k1,k2⟩ | ⟨x,w',k1,k2⟩
 ·exact .inl ⟨k1,k2.mono λe w' hp=>key e w' hp⟩
 ·exact .inr ⟨x,w',k1,key _ _ k2⟩
theorem SC.freshH {P:Program} {f:FuncId} {args:List V} {q:Pa} {m:M} {R:V->M->Prop} (h:(∀i,q <:+ i->m.hp i=none)->SC P f args q m R):SC P f args q m R:=
 λc xs w h1 h2 h3=>h (λi hi=>h1.fresh_hp (h3 i hi)) c xs w h1 h2 h3
