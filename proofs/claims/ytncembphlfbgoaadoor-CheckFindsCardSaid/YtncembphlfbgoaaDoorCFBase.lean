/-
 vB helper theorems of no one function: blocks known whole, a growing book of cells that are never written again (G), data with depth (EX) and how it lies in the book (rX).
-/
import Derived.WalkKit
import Derived.WalkSpells
import Derived.WalkLawsBesides
import Derived.OpenShut
import Derived.Maps.AppendAt
import Derived.Deep.RegionWith
import Derived.Deep.RegionLaw
import Derived.Deep.AppendLies
import Derived.Lib.AppendStr
namespace Go.Proofs.YtncembphlfbgoaaDoor
open Go.RowKit
theorem dD {p:Prop} (h:p):Hid p:=h
def rG (w:World) (g:Nat) (t:TypeId) (cs:Array Value):Prop:=w.heap[g]? = some (.cells cs t (0,0))
section
variable {w w':World} {g:Nat} {t:TypeId} {cs:Array Value}
theorem rG.lt (h:rG w g t cs):g<w.heap.size:=by
 rcases Nat.lt_or_ge g w.heap.size with hlt | hge
 ·exact hlt
 ·unfold rG at h;rw [Array.getElem?_eq_none hge] at h;cases h
theorem rG.cell (h:rG w g t cs) (i:Nat):w.cell? ⟨g,i,none⟩=cs[i]? := by unfold rG at h;simp [World.cell?,h]
theorem rG.frozen (h:rG w g t cs) (i:Nat):w.frozen? ⟨g,i,none⟩=false:=by unfold rG at h;simp [World.frozen?,h]
theorem rG.new (w:World) (t:TypeId) (cs:Array Value):rG (w.alloc (.cells cs t)) w.heap.size t cs:=heap_alloc_new w _
theorem rG.drew (h:rG w g t cs):rG w.drew g t cs:=h
theorem rG.alloc (h:rG w g t cs) (o:Obj):rG (w.alloc o) g t cs:=(Below.heap_alloc w o g h.lt).trans h
theorem rG.set_ (h:rG w g t cs) (i:Nat) (u:Value):rG (w.setCell ⟨g,i,none⟩ u) g t (cs.setIfInBounds i u):=by
 unfold rG at h ⊢;simp [World.setCell,Array.getElem?_modify,h]
theorem rG.grown {row:Option Nat} (h:rG w g t cs) (hb:w.grownBy w' row) (hg:some g ≠ row):rG w' g t cs:=(hb.block g h.lt hg).trans h
end
theorem zV (w:World) (r:Option Nat):w.grownBy w r:=⟨rfl,rfl,rfl,Nat.le_refl _,fun _ _ _=>rfl⟩
theorem Je {a w:World} {r:Option Nat} (h:a.grownBy w r):a.grownBy w.drew r:=⟨h.os,h.tape,h.output,h.size,h.block⟩
theorem AQ {a w:World} {r:Option Nat} (h:a.grownBy w r) (o:Obj):a.grownBy (w.alloc o) r:=
 ⟨h.os,h.tape,h.output,Nat.le_trans h.size (by simp),fun i hi hne=>(Below.heap_alloc w o i (Nat.lt_of_lt_of_le hi h.size)).trans (h.block i hi hne)⟩
theorem gset {a w:World} {r:Option Nat} (h:a.grownBy w r) (g i:Nat) (u:Value) (hg:some g=r ∨ a.heap.size<=g):a.grownBy (w.setCell ⟨g,i,none⟩ u) r:=
 ⟨h.os,h.tape,h.output,by simpa [World.setCell] using h.size,fun k hk hne=>(Below.heap_setCell w ⟨g,i,none⟩ u k (by
  intro e;have e':k=g:=e;subst e'
  rcases hg with hg | hg
  ·exact hne hg
  ·omega)).trans (h.block k hk hne)⟩
abbrev GG:=Nat->Nat->Option Value
def yY (w:World) (G:GG):Prop:=∀b o v,G b o=some v->w.cell? ⟨b,o,none⟩=some v
def Bi (G:GG) (b:Nat):Prop:=∀o,G b o=none
structure iG (B:Nat) (G G':GG):Prop where
 le:∀b o v,G b o=some v->G' b o=some v
 same:∀b,b<B->∀o,G' b o=G b o
theorem iG.refl (B:Nat) (G:GG):iG B G G:=⟨fun _ _ _ h=>h,fun _ _ _=>rfl⟩
theorem iG.trans {B B':Nat} {G G1 G2:GG} (h:iG B G G1) (k:iG B' G1 G2) (hB:B<=B'):iG B G G2:=
 ⟨fun b o v hv=>k.le b o v (h.le b o v hv),fun b hb o=>(k.same b (Nat.lt_of_lt_of_le hb hB) o).trans (h.same b hb o)⟩
theorem yY.grown {w w':World} {G:GG} {row:Option Nat} (h:yY w G) (hg:w.grownBy w' row) (hn:∀r,row=some r->Bi G r):yY w' G:=by
 intro b o v hv;refine hg.cell (h b o v hv) ?_;intro e;have:=hn b e.symm o;rw [this] at hv;cases hv
theorem yY.lt {w:World} {G:GG} (h:yY w G) {b o:Nat} {v:Value} (hv:G b o=some v):b<w.heap.size:=World.block_lt_of_cell? w ⟨b,o,none⟩ (h b o v hv)
theorem yY.out {w:World} {G:GG} (h:yY w G) {b:Nat} (hb:w.heap.size<=b):Bi G b:=by
 intro o;cases hv:G b o with
 | none=>rfl
 | some v=>have:=h.lt hv;omega
theorem El {G:GG} {rb:Nat} (hn:Bi G rb):∀r,some rb=some r->Bi G r:=by
 intro r hr
 injection hr with hr
 subst hr;exact hn
theorem CE {G:GG}:∀r,(none:Option Nat)=some r->Bi G r:=by
 intro r hr;cases hr
theorem yY.alloc {w:World} {G:GG} (h:yY w G) (o:Obj):yY (w.alloc o) G:=h.grown (AQ (zV w none) o) CE
theorem yY.drew {w:World} {G:GG} (h:yY w G):yY w.drew G:=h
theorem yY.drewN {w:World} {G:GG} (h:yY w G) (n:Nat):yY (w.drewN n) G:=h
def Ci (G:GG) (b:Nat) (cs:List Value):GG:=fun b' o=>if b'=b then cs[o]? else G b' o
theorem lay_ext {G:GG} {b B:Nat} {cs:List Value} (ho:Bi G b) (hB:B<=b):iG B G (Ci G b cs):=by
 refine ⟨fun b' o v hv=>?_,fun b' hb o=>?_⟩
 ·unfold Ci
  split
  ·rename_i e;subst e;rw [ho o] at hv;cases hv
  ·exact hv
 ·unfold Ci;rw [if_neg (by omega)]
theorem Ds {G:GG} {b:Nat} {cs:List Value} (i:Nat):Ci G b cs b i=cs[i]? := by simp [Ci]
theorem lay_out {G:GG} {b b':Nat} {cs:List Value} (ho:Bi G b') (hne:b' ≠ b):Bi (Ci G b cs) b':=by
 intro o;unfold Ci;rw [if_neg hne];exact ho o
theorem lay_com {w:World} {G:GG} {b:Nat} {cs:List Value} (h:yY w G) (hc:∀i u,cs[i]? = some u->w.cell? ⟨b,i,none⟩=some u):yY w (Ci G b cs):=by
 intro b' o v hv;unfold Ci at hv
 split at hv
 ·rename_i e;subst e;exact hc o v hv
 ·exact h _ _ _ hv
inductive EX where
 | int (k:IntKind) (n:Int)
 | bool (b:Bool)
 | str (s:ByteArray)
 | node (fs:List EX)
 | list (es:List EX)
inductive rX (G:GG):List EX->List Value->Prop where
 | nil:rX G [] []
 | int {k n ds cs}:(Lit.int k n).wf=true->rX G ds cs->rX G (.int k n::ds) (.int k n::cs)
 | bool {b ds cs}:rX G ds cs->rX G (.bool b::ds) (.bool b::cs)
 | str {s ds cs}:rX G ds cs->rX G (.str s::ds) (.string s::cs)
 | node {fs ds cs1 cs}:rX G fs cs1->rX G ds cs->rX G (.node fs::ds) (cs1++cs)
 | list {es ds cs1 cs a cap}:rX G es cs1->es.length<=cap->cap<=maxLen->(0<es.length->∃b off,a=some ⟨b,off,none⟩/\∀i u,cs1[i]? = some u->G b (off+i)=some u)->rX G ds cs ->
    rX G (.list es::ds) (.slice a es.length cap::cs)
theorem rX.mono {G G':GG} (hle:∀b o v,G b o=some v->G' b o=some v) {ds:List EX} {cs:List Value} (h:rX G ds cs):rX G' ds cs:=by
 induction h with
 | nil=>exact .nil
 | int hw _ ih=>exact .int hw ih
 | bool _ ih=>exact .bool ih
 | str _ ih=>exact .str ih
 | node _ _ ih1 ih2=>exact .node ih1 ih2
 | list _ hc hm ha _ ih1 ih2=>
   refine .list ih1 hc hm (fun hl=>?_) ih2;obtain ⟨b,off,e,h⟩:=ha hl;exact ⟨b,off,e,fun i u hu=>hle _ _ _ (h i u hu)⟩
def xF (G:GG) (es:List EX) (a:Option Addr) (len cap:Nat):Prop:=
 len=es.length/\len<=cap/\cap<=maxLen/\∃cs,rX G es cs/\(0<len->∃b off,a=some ⟨b,off,none⟩/\∀i u,cs[i]? = some u->G b (off+i)=some u)
theorem rX.inv_nil {G:GG} {cs:List Value} (h:rX G [] cs):cs=[]:=by cases h;rfl
theorem rX.inv_int {G:GG} {k n ds cs} (h:rX G (.int k n::ds) cs):∃xs,cs=.int k n::xs/\(Lit.int k n).wf=true/\rX G ds xs:=by cases h with | int hw h=>exact ⟨_,rfl,hw,h⟩
inductive EP:EX->Nat->Prop where
 | int {k n}:EP (.int k n) 1
 | bool {b}:EP (.bool b) 1
 | str {s}:EP (.str s) 1
 | list {es}:EP (.list es) 1
 | node0:EP (.node []) 0
 | node {f fs m n}:EP f m->EP (.node fs) n->EP (.node (f::fs)) (m+n)
structure St (G0:GG) (w0:World) (r:Option Nat) (G:GG) (w:World):Prop where
 ext:iG w0.heap.size G0 G
 com:yY w G
 gr:w0.grownBy w r
 out:∀g,r=some g->Bi G g/\g<w0.heap.size
structure Ob (B:Nat) (G:GG) (w:World) (b:Nat) (t:TypeId) (cs:Array Value):Prop where
 new:B<=b
 blk:rG w b t cs
 out:Bi G b
section
variable {B:Nat} {G G':GG} {w w':World} {b:Nat} {t:TypeId} {cs:Array Value}
end
structure Row (B:Nat) (G:GG) (w:World) (e:TypeId) (size:Nat) (v:Value) (es:List EX):Prop where
 ex:∃cs,w.ownsRow B e size v es.length cs/\rX G es cs
 out:∀g,v.ownBlock=some g->Bi G g
section
variable {B:Nat} {G G':GG} {w w':World} {e:TypeId} {size:Nat} {v:Value} {es:List EX}
end
def Src (w:World) (x:Value) (m:Nat) (news:List Value):Prop:=∃A c,x=.slice A m c/\(0<m->∃ad:Addr,A=some ad/\∀j u,news[j]? = some u->w.cell? (ad.add j)=some u)
theorem iP (b o j:Nat):(⟨b,o,none⟩:Addr).add j=⟨b,o+j,none⟩:=by unfold Addr.add;split <;> simp_all
section
variable {P:Program} (w:World)
end
open Go.Lib in
section
variable {P:Program}
end
structure Two (G0:GG) (w0:World) (rb tb sb T:Nat) (z:Array Value) (G:GG) (w:World) (cs:Array Value):Prop where
 st:St G0 w0 (some rb) G w
 t:Ob w0.heap.size G w tb T cs
 o:Ob w0.heap.size G w sb T z
 ne:tb ≠ sb
section
variable {G0:GG} {w0:World} {rb tb sb T:Nat} {z:Array Value} {G G':GG} {w w':World} {cs:Array Value}
end
structure WFr (wb:Nat) (row:Option Nat) (w w':World):Prop where
 os:w'.os=w.os
 tape:w'.tape=w.tape
 output:w'.output=w.output
 size:w.heap.size<=w'.heap.size
 block:∀k,k<w.heap.size->k ≠ wb->some k ≠ row->w'.heap[k]? = w.heap[k]?
section
variable {wb:Nat} {row row1:Option Nat} {w w1 w2 w':World} {G:GG}
end
end Go.Proofs.YtncembphlfbgoaaDoor
