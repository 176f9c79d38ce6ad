/- Lemmas of ours. -/
import Derived.WalkKit
import Derived.WalkSpells
import Derived.WalkLawsBesides
import Derived.OpenShut
import Derived.Maps.AppendAt
import Derived.Deep.RegionWith
import Derived.Deep.RegionLaw
import Derived.Deep.AppendLies
import Derived.Lib.AppendStr
namespace Go.Proofs.YtncembphlfbgoaaGreatDoor
theorem rI {p:Prop} (h:p):p:=h
abbrev jK:=@List.length_cons
abbrev lD:=@List.length_nil
abbrev mK:=@List.map_cons
abbrev nL:=@List.length_append
abbrev oL:=@List.map_nil
abbrev pI:=@Option.bind_some
abbrev qS:=@List.getElem?_eq_some_iff
abbrev qU:=@List.drop_zero
abbrev sU:=@Nat.le_refl
abbrev tH:=@List.getElem?_eq_getElem
abbrev tS:=@List.nil_append
abbrev uQ:=@List.length_map
abbrev uP:=@List.length_singleton
abbrev vI:=@List.mem_cons
abbrev xH:=@Nat.lt_succ_self
abbrev xX:=@Bool.false_eq_true
abbrev zB:=@List.drop_succ_cons
abbrev zC:=@List.getElem?_map
abbrev Ah:=@List.mem_append
abbrev AQ:=@List.take_zero
abbrev AP:=@Int.toNat_natCast
abbrev AU:=@List.mem_singleton
abbrev AT:=@List.mem_of_getElem?
abbrev BB:=@List.cons_append
abbrev CA:=@Array.getD_eq_getD_getElem?
abbrev CY:=@List.take_succ_cons
abbrev DX:=@Sum.elim_inr
abbrev DW:=@of_decide_eq_true
abbrev Ef:=@List.append_nil
abbrev Ee:=@Option.map_some
abbrev En:=@List.set_cons_zero
abbrev EF:=@List.length_take
abbrev EG:=@List.mem_map
abbrev Fi:=@Bool.and_eq_true
abbrev Fh:=@decide_eq_true
abbrev Fl:=@List.mem_filter
abbrev Fk:=@List.isSuffixOf_iff_suffix
abbrev FJ:=@List.all_eq_true
abbrev FI:=@List.set_cons_succ
abbrev FY:=@List.flatten_cons
abbrev FX:=@List.getElem?_append_left
abbrev FW:=@Sum.elim_inl
abbrev FV:=@decide_eq_true_eq
abbrev Ho:=@List.length_drop
abbrev Hr:=@List.getElem?_append_right
abbrev HO:=@Nat.succ_mul
abbrev HN:=@List.mem_or_eq_of_mem_set
abbrev HM:=@List.getElem?_set
abbrev HL:=@List.length_set
abbrev Iy:=@List.suffix_refl
abbrev Ix:=@List.not_mem_nil
abbrev Jx:=@List.mem_cons_of_mem
abbrev Jw:=@List.mem_of_mem_take
abbrev JE:=@Nat.le_trans
abbrev JD:=@Nat.zero_add
abbrev JC:=@List.map_append
abbrev JB:=@List.mem_range
abbrev JA:=@List.getD_eq_getElem?_getD
abbrev La:=@Nat.zero_le
abbrev Li:=@List.getElem?_set_self
abbrev Lh:=@List.getElem?_cons_succ
abbrev MA:=@List.suffix_cons
abbrev Mz:=@List.ext_getElem?
abbrev My:=@List.getElem?_set_ne
abbrev Mx:=@List.append_assoc
abbrev Mw:=@of_decide_eq_false
abbrev Nr:=@Bool.or_eq_true
abbrev Nq:=@Bool.not_eq_true'
abbrev Pl:=@Array.length_toList
abbrev Pk:=@List.map_congr_left
abbrev Pj:=@List.filter_cons
abbrev Pi:=@List.countP_cons
abbrev Ph:=@Array.getElem?_eq_getElem
abbrev Pg:=@Int.le_refl
abbrev Pf:=@List.mem_of_mem_drop
abbrev Pe:=@List.mem_replicate
abbrev Pd:=@List.prefix_refl
abbrev Py:=@Nat.lt_of_lt_of_le
abbrev Px:=@List.getElem?_toArray
abbrev Pw:=@List.filter_append
abbrev Pv:=@List.head?_drop
abbrev Pu:=@List.getElem?_cons_zero
abbrev Pt:=@Nat.mul_one
abbrev Ps:=@List.drop_eq_getElem_cons
abbrev xdg:=@Nat.add_zero
abbrev xdh:=@Nat.add_mul
abbrev xdi:=@List.contains_iff_mem
abbrev xdj:=@List.append_of_mem
abbrev xdk:=@List.filter_congr
abbrev xdl:=@List.getElem?_take
abbrev xdm:=@List.length_replicate
abbrev xdn:=@decide_eq_false
abbrev xdo:=@List.getElem?_mapIdx
abbrev xdp:=@List.getElem?_eq_none
abbrev xdq:=@Nat.mul_le_mul_right
abbrev xdr:=@List.map_map
abbrev xds:=@Int.natCast_nonneg
abbrev xdt:=@Nat.zero_ne_one
abbrev xdu:=@List.getElem?_drop
abbrev xdv:=@List.getElem_mem
abbrev xdw:=@List.map_set
abbrev xdx:=@Nat.sub_self
abbrev xdy:=@Bool.or_eq_false_iff
abbrev xdz:=@Option.getD_some
abbrev xea:=@List.any_eq_true
abbrev xeb:=@List.forall_mem_cons
abbrev xec:=@List.mem_cons_self
abbrev xed:=@Nat.min_eq_left
abbrev xee:=@Array.getElem?_replicate
abbrev xef:=@List.toList_toArray
abbrev xeg:=@Option.map_none
abbrev xeh:=@List.take_of_length_le
abbrev xei:=@List.replicate_succ
abbrev xej:=@List.prefix_append
abbrev xek:=@List.mem_map_of_mem
abbrev xel:=@List.size_toArray
abbrev xem:=@List.take_length
abbrev xen:=@List.map_replicate
abbrev xeo:=@List.mem_append_right
abbrev xep:=@Array.toList_setIfInBounds
abbrev xeq:=@List.getElem?_take_of_lt
abbrev xer:=@Array.getElem?_setIfInBounds_ne
abbrev xes:=@List.countP_le_length
abbrev xet:=@Array.getElem?_toList
abbrev xeu:=@List.eq_nil_iff_forall_not_mem
abbrev xev:=@Array.getElem?_setIfInBounds_self_of_lt
abbrev xew:=@Array.mapM_eq_mapM_toList
open Go.RowKit
theorem eI {p:Prop} (h:p):Hid p:=h
def xD (w:World) (g:Nat) (t:TypeId) (cs:Array Value):Prop:=w.heap[g]? = some (.cells cs t (0,0))
section
variable {w w':World} {g:Nat} {t:TypeId} {cs:Array Value}
theorem xD.lt (h:xD w g t cs):g<w.heap.size:=by
 rcases Nat.lt_or_ge g w.heap.size with hlt | hge
 ·exact hlt
 ·unfold xD at h;rw [Array.getElem?_eq_none hge] at h;cases h
theorem xD.cell (h:xD w g t cs) (i:Nat):w.cell? ⟨g,i,none⟩=cs[i]? := by unfold xD at h;simp [World.cell?,h]
theorem xD.frozen (h:xD w g t cs) (i:Nat):w.frozen? ⟨g,i,none⟩=false:=by unfold xD at h;simp [World.frozen?,h]
theorem xD.new (w:World) (t:TypeId) (cs:Array Value):xD (w.alloc (.cells cs t)) w.heap.size t cs:=heap_alloc_new w _
theorem xD.drew (h:xD w g t cs):xD w.drew g t cs:=h
theorem xD.alloc (h:xD w g t cs) (o:Obj):xD (w.alloc o) g t cs:=(Below.heap_alloc w o g h.lt).trans h
theorem xD.set_ (h:xD w g t cs) (i:Nat) (u:Value):xD (w.setCell ⟨g,i,none⟩ u) g t (cs.setIfInBounds i u):=by
 unfold xD at h ⊢;simp [World.setCell,Array.getElem?_modify,h]
theorem xD.grown {row:Option Nat} (h:xD w g t cs) (hb:w.grownBy w' row) (hg:some g ≠ row):xD w' g t cs:=(hb.block g h.lt hg).trans h
end
theorem Ei (w:World) (r:Option Nat):w.grownBy w r:=⟨rfl,rfl,rfl,sU _,fun _ _ _=>rfl⟩
theorem QM {a w:World} {r:Option Nat} (h:a.grownBy w r):a.grownBy w.drew r:=⟨h.os,h.tape,h.output,h.size,h.block⟩
theorem FB {a w:World} {r:Option Nat} (h:a.grownBy w r) (o:Obj):a.grownBy (w.alloc o) r:=
 ⟨h.os,h.tape,h.output,JE h.size (by simp),fun i hi hne=>(Below.heap_alloc w o i (Py hi h.size)).trans (h.block i hi hne)⟩
theorem gset {a w:World} {r:Option Nat} (h:a.grownBy w r) (g i:Nat) (u:Value) (hg:some g=r ∨ a.heap.size<=g):a.grownBy (w.setCell ⟨g,i,none⟩ u) r:=
 ⟨h.os,h.tape,h.output,by simpa [World.setCell] using h.size,fun k hk hne=>(Below.heap_setCell w ⟨g,i,none⟩ u k (by
  intro e;have e':k=g:=e;subst e'
  rcases hg with hg | hg
  ·exact hne hg
  ·omega)).trans (h.block k hk hne)⟩
abbrev GG:=Nat->Nat->Option Value
def Em (w:World) (G:GG):Prop:=∀b o v,G b o=some v->w.cell? ⟨b,o,none⟩=some v
def Gh (G:GG) (b:Nat):Prop:=∀o,G b o=none
structure mL (B:Nat) (G G':GG):Prop where
 le:∀b o v,G b o=some v->G' b o=some v
 same:∀b,b<B->∀o,G' b o=G b o
theorem mL.refl (B:Nat) (G:GG):mL B G G:=⟨fun _ _ _ h=>h,fun _ _ _=>rfl⟩
theorem mL.trans {B B':Nat} {G G1 G2:GG} (h:mL B G G1) (k:mL B' G1 G2) (hB:B<=B'):mL B G G2:=
 ⟨fun b o v hv=>k.le b o v (h.le b o v hv),fun b hb o=>(k.same b (Py hb hB) o).trans (h.same b hb o)⟩
theorem Em.grown {w w':World} {G:GG} {row:Option Nat} (h:Em w G) (hg:w.grownBy w' row) (hn:∀r,row=some r->Gh G r):Em w' G:=by
 intro b o v hv;refine hg.cell (h b o v hv) ?_;intro e;have:=hn b e.symm o;rw [this] at hv;cases hv
theorem Em.lt {w:World} {G:GG} (h:Em w G) {b o:Nat} {v:Value} (hv:G b o=some v):b<w.heap.size:=World.block_lt_of_cell? w ⟨b,o,none⟩ (h b o v hv)
theorem Em.out {w:World} {G:GG} (h:Em w G) {b:Nat} (hb:w.heap.size<=b):Gh G b:=by
 intro o;cases hv:G b o with
 | none=>rfl
 | some v=>have:=h.lt hv;omega
theorem Kn {G:GG} {rb:Nat} (hn:Gh G rb):∀r,some rb=some r->Gh G r:=by
 intro r hr
 injection hr with hr
 subst hr;exact hn
theorem Ib {G:GG}:∀r,(none:Option Nat)=some r->Gh G r:=by
 intro r hr;cases hr
theorem Em.alloc {w:World} {G:GG} (h:Em w G) (o:Obj):Em (w.alloc o) G:=h.grown (FB (Ei w none) o) Ib
theorem Em.drew {w:World} {G:GG} (h:Em w G):Em w.drew G:=h
theorem Em.drewN {w:World} {G:GG} (h:Em w G) (n:Nat):Em (w.drewN n) G:=h
def Hq (G:GG) (b:Nat) (cs:List Value):GG:=fun b' o=>if b'=b then cs[o]? else G b' o
theorem lay_ext {G:GG} {b B:Nat} {cs:List Value} (ho:Gh G b) (hB:B<=b):mL B G (Hq G b cs):=by
 refine ⟨fun b' o v hv=>?_,fun b' hb o=>?_⟩
 ·unfold Hq
  split
  ·rename_i e;subst e;rw [ho o] at hv;cases hv
  ·exact hv
 ·unfold Hq;rw [if_neg (by omega)]
theorem Ja {G:GG} {b:Nat} {cs:List Value} (i:Nat):Hq G b cs b i=cs[i]? := by simp [Hq]
theorem lay_out {G:GG} {b b':Nat} {cs:List Value} (ho:Gh G b') (hne:b' ≠ b):Gh (Hq G b cs) b':=by
 intro o;unfold Hq;rw [if_neg hne];exact ho o
theorem lay_com {w:World} {G:GG} {b:Nat} {cs:List Value} (h:Em w G) (hc:∀i u,cs[i]? = some u->w.cell? ⟨b,i,none⟩=some u):Em w (Hq G b cs):=by
 intro b' o v hv;unfold Hq at hv
 split at hv
 ·rename_i e;subst e;exact hc o v hv
 ·exact h _ _ _ hv
inductive Mv where
 | int (k:IntKind) (n:Int)
 | bool (b:Bool)
 | str (s:ByteArray)
 | node (fs:List Mv)
 | list (es:List Mv)
inductive xC (G:GG):List Mv->List Value->Prop where
 | nil:xC G [] []
 | int {k n ds cs}:(Lit.int k n).wf=true->xC G ds cs->xC G (.int k n::ds) (.int k n::cs)
 | bool {b ds cs}:xC G ds cs->xC G (.bool b::ds) (.bool b::cs)
 | str {s ds cs}:xC G ds cs->xC G (.str s::ds) (.string s::cs)
 | node {fs ds cs1 cs}:xC G fs cs1->xC G ds cs->xC G (.node fs::ds) (cs1++cs)
 | list {es ds cs1 cs a cap}:xC G es cs1->es.length<=cap->cap<=maxLen->(0<es.length->∃b off,a=some ⟨b,off,none⟩/\∀i u,cs1[i]? = some u->G b (off+i)=some u)->xC G ds cs ->
    xC G (.list es::ds) (.slice a es.length cap::cs)
theorem xC.mono {G G':GG} (hle:∀b o v,G b o=some v->G' b o=some v) {ds:List Mv} {cs:List Value} (h:xC G ds cs):xC G' ds cs:=by
 induction h with
 | nil=>exact .nil
 | int hw _ ih=>exact .int hw ih
 | bool _ ih=>exact .bool ih
 | str _ ih=>exact .str ih
 | node _ _ ih1 ih2=>exact .node ih1 ih2
 | list _ hc hm ha _ ih1 ih2=>
   refine .list ih1 hc hm (fun hl=>?_) ih2;obtain ⟨b,off,e,h⟩:=ha hl;exact ⟨b,off,e,fun i u hu=>hle _ _ _ (h i u hu)⟩
def Cs (G:GG) (es:List Mv) (a:Option Addr) (len cap:Nat):Prop:=
 len=es.length/\len<=cap/\cap<=maxLen/\∃cs,xC G es cs/\(0<len->∃b off,a=some ⟨b,off,none⟩/\∀i u,cs[i]? = some u->G b (off+i)=some u)
theorem xC.inv_nil {G:GG} {cs:List Value} (h:xC G [] cs):cs=[]:=by cases h;rfl
theorem xC.inv_int {G:GG} {k n ds cs} (h:xC G (.int k n::ds) cs):∃xs,cs=.int k n::xs/\(Lit.int k n).wf=true/\xC G ds xs:=by cases h with | int hw h=>exact ⟨_,rfl,hw,h⟩
inductive KT:Mv->Nat->Prop where
 | int {k n}:KT (.int k n) 1
 | bool {b}:KT (.bool b) 1
 | str {s}:KT (.str s) 1
 | list {es}:KT (.list es) 1
 | node0:KT (.node []) 0
 | node {f fs m n}:KT f m->KT (.node fs) n->KT (.node (f::fs)) (m+n)
structure St (G0:GG) (w0:World) (r:Option Nat) (G:GG) (w:World):Prop where
 ext:mL w0.heap.size G0 G
 com:Em w G
 gr:w0.grownBy w r
 out:∀g,r=some g->Gh G g/\g<w0.heap.size
structure Ob (B:Nat) (G:GG) (w:World) (b:Nat) (t:TypeId) (cs:Array Value):Prop where
 new:B<=b
 blk:xD w b t cs
 out:Gh G b
section
variable {B:Nat} {G G':GG} {w w':World} {b:Nat} {t:TypeId} {cs:Array Value}
end
structure Row (B:Nat) (G:GG) (w:World) (e:TypeId) (size:Nat) (v:Value) (es:List Mv):Prop where
 ex:∃cs,w.ownsRow B e size v es.length cs/\xC G es cs
 out:∀g,v.ownBlock=some g->Gh G g
section
variable {B:Nat} {G G':GG} {w w':World} {e:TypeId} {size:Nat} {v:Value} {es:List Mv}
end
def Src (w:World) (x:Value) (m:Nat) (news:List Value):Prop:=∃A c,x=.slice A m c/\(0<m->∃ad:Addr,A=some ad/\∀j u,news[j]? = some u->w.cell? (ad.add j)=some u)
theorem jY (b o j:Nat):(⟨b,o,none⟩:Addr).add j=⟨b,o+j,none⟩:=by unfold Addr.add;split <;> simp_all
section
variable {P:Program} (w:World)
end
open Go.Lib in
section
variable {P:Program}
end
structure Two (G0:GG) (w0:World) (rb tb sb T:Nat) (z:Array Value) (G:GG) (w:World) (cs:Array Value):Prop where
 st:St G0 w0 (some rb) G w
 t:Ob w0.heap.size G w tb T cs
 o:Ob w0.heap.size G w sb T z
 ne:tb ≠ sb
section
variable {G0:GG} {w0:World} {rb tb sb T:Nat} {z:Array Value} {G G':GG} {w w':World} {cs:Array Value}
end
structure WFr (wb:Nat) (row:Option Nat) (w w':World):Prop where
 os:w'.os=w.os
 tape:w'.tape=w.tape
 output:w'.output=w.output
 size:w.heap.size<=w'.heap.size
 block:∀k,k<w.heap.size->k ≠ wb->some k ≠ row->w'.heap[k]? = w.heap[k]?
section
variable {wb:Nat} {row row1:Option Nat} {w w1 w2 w':World} {G:GG}
end
end Go.Proofs.YtncembphlfbgoaaGreatDoor
