/-
 Own helper theorems of no one function: blocks known whole, a growing book of cells that are never written again (G), data with depth (Dat) and how it lies in the book (Reps).
-/
import Derived.WalkKit
import Derived.WalkSpells
import Derived.WalkLawsBesides
import Derived.OpenShut
import Derived.Maps.AppendAt
import Derived.Deep.RegionWith
import Derived.Deep.RegionLaw
import Derived.Deep.AppendLies
import Derived.Lib.AppendStr
namespace Go.Proofs.YtldnmmnnohnpkaaGreatDoor
set_option linter.unusedVariables false
open Go.RowKit
theorem hid {p:Prop} (h:p):Hid p:=h
def Blk (w:World) (g:Nat) (t:TypeId) (cs:Array Value):Prop:=w.heap[g]? = some (.cells cs t (0,0))
section
variable {w w':World} {g:Nat} {t:TypeId} {cs:Array Value}
theorem Blk.lt (h:Blk w g t cs):g<w.heap.size:=by
 rcases Nat.lt_or_ge g w.heap.size with hlt | hge
 ·exact hlt
 ·unfold Blk at h;rw [Array.getElem?_eq_none hge] at h;cases h
theorem Blk.cell (h:Blk w g t cs) (i:Nat):w.cell? ⟨g,i,none⟩=cs[i]? := by unfold Blk at h;simp [World.cell?,h]
theorem Blk.frozen (h:Blk w g t cs) (i:Nat):w.frozen? ⟨g,i,none⟩=false:=by unfold Blk at h;simp [World.frozen?,h]
theorem Blk.new (w:World) (t:TypeId) (cs:Array Value):Blk (w.alloc (.cells cs t)) w.heap.size t cs:=heap_alloc_new w _
theorem Blk.drew (h:Blk w g t cs):Blk w.drew g t cs:=h
theorem Blk.alloc (h:Blk w g t cs) (o:Obj):Blk (w.alloc o) g t cs:=(Below.heap_alloc w o g h.lt).trans h
theorem Blk.set_ (h:Blk w g t cs) (i:Nat) (u:Value):Blk (w.setCell ⟨g,i,none⟩ u) g t (cs.setIfInBounds i u):=by
 unfold Blk at h ⊢;simp [World.setCell,Array.getElem?_modify,h]
theorem Blk.grown {row:Option Nat} (h:Blk w g t cs) (hb:w.grownBy w' row) (hg:some g ≠ row):Blk w' g t cs:=(hb.block g h.lt hg).trans h
end
theorem zlz (w:World) (r:Option Nat):w.grownBy w r:=⟨rfl,rfl,rfl,Nat.le_refl _,fun _ _ _=>rfl⟩
theorem gdrew {a w:World} {r:Option Nat} (h:a.grownBy w r):a.grownBy w.drew r:=⟨h.os,h.tape,h.output,h.size,h.block⟩
theorem zlL {a w:World} {r:Option Nat} (h:a.grownBy w r) (o:Obj):a.grownBy (w.alloc o) r:=
 ⟨h.os,h.tape,h.output,Nat.le_trans h.size (by simp),fun i hi hne=>(Below.heap_alloc w o i (Nat.lt_of_lt_of_le hi h.size)).trans (h.block i hi hne)⟩
theorem gset {a w:World} {r:Option Nat} (h:a.grownBy w r) (g i:Nat) (u:Value) (hg:some g=r ∨ a.heap.size<=g):a.grownBy (w.setCell ⟨g,i,none⟩ u) r:=
 ⟨h.os,h.tape,h.output,by simpa [World.setCell] using h.size,fun k hk hne=>(Below.heap_setCell w ⟨g,i,none⟩ u k (by
  intro e;have e':k=g:=e;subst e'
  rcases hg with hg | hg
  ·exact hne hg
  ·omega)).trans (h.block k hk hne)⟩
abbrev GG:=Nat->Nat->Option Value
def Com (w:World) (G:GG):Prop:=∀b o v,G b o=some v->w.cell? ⟨b,o,none⟩=some v
def Out (G:GG) (b:Nat):Prop:=∀o,G b o=none
structure Ext (B:Nat) (G G':GG):Prop where
 le:∀b o v,G b o=some v->G' b o=some v
 same:∀b,b<B->∀o,G' b o=G b o
theorem Ext.refl (B:Nat) (G:GG):Ext B G G:=⟨fun _ _ _ h=>h,fun _ _ _=>rfl⟩
theorem Ext.trans {B B':Nat} {G G1 G2:GG} (h:Ext B G G1) (k:Ext B' G1 G2) (hB:B<=B'):Ext B G G2:=
 ⟨fun b o v hv=>k.le b o v (h.le b o v hv),fun b hb o=>(k.same b (Nat.lt_of_lt_of_le hb hB) o).trans (h.same b hb o)⟩
theorem Com.grown {w w':World} {G:GG} {row:Option Nat} (h:Com w G) (hg:w.grownBy w' row) (hn:∀r,row=some r->Out G r):Com w' G:=by
 intro b o v hv;refine hg.cell (h b o v hv) ?_;intro e;have:=hn b e.symm o;rw [this] at hv;cases hv
theorem Com.lt {w:World} {G:GG} (h:Com w G) {b o:Nat} {v:Value} (hv:G b o=some v):b<w.heap.size:=World.block_lt_of_cell? w ⟨b,o,none⟩ (h b o v hv)
theorem Com.out {w:World} {G:GG} (h:Com w G) {b:Nat} (hb:w.heap.size<=b):Out G b:=by
 intro o;cases hv:G b o with
 | none=>rfl
 | some v=>have:=h.lt hv;omega
theorem zny {G:GG} {rb:Nat} (hn:Out G rb):∀r,some rb=some r->Out G r:=by
 intro r hr
 injection hr with hr
 subst hr;exact hn
theorem zmz {G:GG}:∀r,(none:Option Nat)=some r->Out G r:=by
 intro r hr;cases hr
theorem Com.alloc {w:World} {G:GG} (h:Com w G) (o:Obj):Com (w.alloc o) G:=h.grown (zlL (zlz w none) o) zmz
theorem Com.drew {w:World} {G:GG} (h:Com w G):Com w.drew G:=h
theorem Com.drewN {w:World} {G:GG} (h:Com w G) (n:Nat):Com (w.drewN n) G:=h
def lay (G:GG) (b:Nat) (cs:List Value):GG:=fun b' o=>if b'=b then cs[o]? else G b' o
theorem lay_ext {G:GG} {b B:Nat} {cs:List Value} (ho:Out G b) (hB:B<=b):Ext B G (lay G b cs):=by
 refine ⟨fun b' o v hv=>?_,fun b' hb o=>?_⟩
 ·unfold lay
  split
  ·rename_i e;subst e;rw [ho o] at hv;cases hv
  ·exact hv
 ·unfold lay;rw [if_neg (by omega)]
theorem znB {G:GG} {b:Nat} {cs:List Value} (i:Nat):lay G b cs b i=cs[i]? := by simp [lay]
theorem lay_out {G:GG} {b b':Nat} {cs:List Value} (ho:Out G b') (hne:b' ≠ b):Out (lay G b cs) b':=by
 intro o;unfold lay;rw [if_neg hne];exact ho o
theorem lay_com {w:World} {G:GG} {b:Nat} {cs:List Value} (h:Com w G) (hc:∀i u,cs[i]? = some u->w.cell? ⟨b,i,none⟩=some u):Com w (lay G b cs):=by
 intro b' o v hv;unfold lay at hv
 split at hv
 ·rename_i e;subst e;exact hc o v hv
 ·exact h _ _ _ hv
inductive Dat where
 | int (k:IntKind) (n:Int)
 | bool (b:Bool)
 | str (s:ByteArray)
 | node (fs:List Dat)
 | list (es:List Dat)
inductive Reps (G:GG):List Dat->List Value->Prop where
 | nil:Reps G [] []
 | int {k n ds cs}:(Lit.int k n).wf=true->Reps G ds cs->Reps G (.int k n::ds) (.int k n::cs)
 | bool {b ds cs}:Reps G ds cs->Reps G (.bool b::ds) (.bool b::cs)
 | str {s ds cs}:Reps G ds cs->Reps G (.str s::ds) (.string s::cs)
 | node {fs ds cs1 cs}:Reps G fs cs1->Reps G ds cs->Reps G (.node fs::ds) (cs1++cs)
 | list {es ds cs1 cs a cap}:Reps G es cs1->es.length<=cap->cap<=maxLen->(0<es.length->∃b off,a=some ⟨b,off,none⟩/\∀i u,cs1[i]? = some u->G b (off+i)=some u)->Reps G ds cs ->
    Reps G (.list es::ds) (.slice a es.length cap::cs)
inductive Wide:Dat->Nat->Prop where
 | int {k n}:Wide (.int k n) 1
 | bool {b}:Wide (.bool b) 1
 | str {s}:Wide (.str s) 1
 | list {es}:Wide (.list es) 1
 | node0:Wide (.node []) 0
 | node {f fs m n}:Wide f m->Wide (.node fs) n->Wide (.node (f::fs)) (m+n)
structure St (G0:GG) (w0:World) (r:Option Nat) (G:GG) (w:World):Prop where
 ext:Ext w0.heap.size G0 G
 com:Com w G
 gr:w0.grownBy w r
 out:∀g,r=some g->Out G g/\g<w0.heap.size
structure Ob (B:Nat) (G:GG) (w:World) (b:Nat) (t:TypeId) (cs:Array Value):Prop where
 new:B<=b
 blk:Blk w b t cs
 out:Out G b
section
variable {B:Nat} {G G':GG} {w w':World} {b:Nat} {t:TypeId} {cs:Array Value}
end
structure Row (B:Nat) (G:GG) (w:World) (e:TypeId) (size:Nat) (v:Value) (es:List Dat):Prop where
 ex:∃cs,w.ownsRow B e size v es.length cs/\Reps G es cs
 out:∀g,v.ownBlock=some g->Out G g
section
variable {B:Nat} {G G':GG} {w w':World} {e:TypeId} {size:Nat} {v:Value} {es:List Dat}
end
def Src (w:World) (x:Value) (m:Nat) (news:List Value):Prop:=∃A c,x=.slice A m c/\(0<m->∃ad:Addr,A=some ad/\∀j u,news[j]? = some u->w.cell? (ad.add j)=some u)
theorem zdH (b o j:Nat):(⟨b,o,none⟩:Addr).add j=⟨b,o+j,none⟩:=by unfold Addr.add;split <;> simp_all
section
variable {P:Program} (w:World)
end
open Go.Lib in
section
variable {P:Program}
end
structure Two (G0:GG) (w0:World) (rb tb sb T:Nat) (z:Array Value) (G:GG) (w:World) (cs:Array Value):Prop where
 st:St G0 w0 (some rb) G w
 t:Ob w0.heap.size G w tb T cs
 o:Ob w0.heap.size G w sb T z
 ne:tb ≠ sb
section
variable {G0:GG} {w0:World} {rb tb sb T:Nat} {z:Array Value} {G G':GG} {w w':World} {cs:Array Value}
end
structure WFr (wb:Nat) (row:Option Nat) (w w':World):Prop where
 os:w'.os=w.os
 tape:w'.tape=w.tape
 output:w'.output=w.output
 size:w.heap.size<=w'.heap.size
 block:∀k,k<w.heap.size->k ≠ wb->some k ≠ row->w'.heap[k]? = w.heap[k]?
section
variable {wb:Nat} {row row1:Option Nat} {w w1 w2 w':World} {G:GG}
end
end Go.Proofs.YtldnmmnnohnpkaaGreatDoor
