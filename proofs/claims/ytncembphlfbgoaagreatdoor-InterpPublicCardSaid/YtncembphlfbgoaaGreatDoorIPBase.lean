/- Lemmas of ours. -/
import Derived.WalkKit
import Derived.WalkSpells
import Derived.WalkLawsBesides
import Derived.OpenShut
import Derived.Maps.AppendAt
import Derived.Deep.RegionWith
import Derived.Deep.RegionLaw
import Derived.Deep.AppendLies
import Derived.Lib.AppendStr
namespace Go.Proofs.YtncembphlfbgoaaGreatDoor
theorem rI {p:Prop} (h:p):p:=h
abbrev jC:=@List.length_cons
abbrev lA:=@List.length_nil
abbrev lQ:=@List.map_cons
abbrev mS:=@Option.bind_some
abbrev nC:=@List.length_append
abbrev oU:=@List.map_nil
abbrev qJ:=@List.getElem?_eq_some_iff
abbrev qU:=@List.drop_zero
abbrev sY:=@List.length_map
abbrev tA:=@List.getElem?_eq_getElem
abbrev tJ:=@Nat.le_refl
abbrev uG:=@List.nil_append
abbrev uW:=@List.length_singleton
abbrev vA:=@List.mem_cons
abbrev xQ:=@Nat.lt_succ_self
abbrev yI:=@Bool.false_eq_true
abbrev yH:=@List.getElem?_map
abbrev yG:=@Int.toNat_natCast
abbrev zN:=@List.mem_singleton
abbrev zM:=@List.drop_succ_cons
abbrev Al:=@List.mem_of_getElem?
abbrev At:=@List.mem_append
abbrev Bd:=@List.take_zero
abbrev BO:=@List.cons_append
abbrev CT:=@Array.getD_eq_getD_getElem?
abbrev Dk:=@of_decide_eq_true
abbrev Dm:=@List.take_succ_cons
abbrev DU:=@decide_eq_true
abbrev Ej:=@Option.map_some
abbrev Ei:=@List.length_take
abbrev Et:=@List.append_nil
abbrev Es:=@Sum.elim_inr
abbrev EB:=@List.set_cons_zero
abbrev ER:=@List.mem_map
abbrev Fy:=@List.flatten_cons
abbrev Fw:=@Bool.and_eq_true
abbrev Fv:=@decide_eq_true_eq
abbrev FB:=@List.getElem?_append_left
abbrev FA:=@List.mem_filter
abbrev Fz:=@List.isSuffixOf_iff_suffix
abbrev Ga:=@List.all_eq_true
abbrev FZ:=@List.set_cons_succ
abbrev GI:=@List.length_set
abbrev GH:=@Sum.elim_inl
abbrev GP:=@List.getElem?_append_right
abbrev HT:=@List.not_mem_nil
abbrev HS:=@List.map_append
abbrev HR:=@List.length_drop
abbrev HW:=@List.mem_or_eq_of_mem_set
abbrev Ip:=@Nat.succ_mul
abbrev Io:=@List.getElem?_set_self
abbrev In:=@List.getElem?_set
abbrev Jb:=@List.suffix_refl
abbrev Ja:=@List.getElem?_set_ne
abbrev IZ:=@Nat.zero_add
abbrev Kc:=@List.mem_cons_of_mem
abbrev Kb:=@List.mem_of_mem_take
abbrev Kl:=@Nat.le_trans
abbrev Kk:=@List.mem_range
abbrev Kj:=@List.getD_eq_getElem?_getD
abbrev Ki:=@List.getElem?_cons_succ
abbrev Kh:=@Nat.zero_le
abbrev LK:=@of_decide_eq_false
abbrev LO:=@Nat.mul_one
abbrev Nf:=@List.suffix_cons
abbrev Nc:=@List.ext_getElem?
abbrev Nb:=@List.append_assoc
abbrev NW:=@Bool.or_eq_true
abbrev NV:=@Bool.not_eq_true'
abbrev NU:=@List.drop_eq_getElem_cons
abbrev PY:=@Array.length_toList
abbrev PW:=@List.map_congr_left
abbrev PV:=@List.filter_cons
abbrev PU:=@List.countP_cons
abbrev PT:=@Array.getElem?_eq_getElem
abbrev PS:=@List.mem_of_mem_drop
abbrev PR:=@List.mem_replicate
abbrev PQ:=@List.length_replicate
abbrev PP:=@List.map_set
abbrev PN:=@List.prefix_refl
abbrev Ql:=@Nat.lt_of_lt_of_le
abbrev Qk:=@Nat.add_zero
abbrev Qj:=@List.getElem?_toArray
abbrev Qi:=@List.filter_append
abbrev Qh:=@List.head?_drop
abbrev Qg:=@List.getElem?_cons_zero
abbrev Qf:=@Int.le_refl
abbrev Qe:=@List.getElem?_take
abbrev xdk:=@Nat.add_mul
abbrev xdl:=@List.contains_iff_mem
abbrev xdm:=@List.append_of_mem
abbrev xdn:=@List.filter_congr
abbrev xdo:=@decide_eq_false
abbrev xdp:=@List.getElem?_mapIdx
abbrev xdq:=@List.getElem?_eq_none
abbrev xdr:=@Nat.mul_le_mul_right
abbrev xds:=@List.map_map
abbrev xdt:=@Int.natCast_nonneg
abbrev xdu:=@Nat.zero_ne_one
abbrev xdv:=@List.getElem?_drop
abbrev xdw:=@List.getElem_mem
abbrev xdx:=@Nat.sub_self
abbrev xdy:=@Bool.or_eq_false_iff
abbrev xdz:=@Option.getD_some
abbrev xea:=@List.any_eq_true
abbrev xeb:=@List.forall_mem_cons
abbrev xec:=@List.mem_cons_self
abbrev xed:=@List.take_of_length_le
abbrev xee:=@Nat.min_eq_left
abbrev xef:=@Array.getElem?_replicate
abbrev xeg:=@List.toList_toArray
abbrev xeh:=@Option.map_none
abbrev xei:=@List.replicate_succ
abbrev xej:=@List.prefix_append
abbrev xek:=@List.getElem?_take_of_lt
abbrev xel:=@List.mem_map_of_mem
abbrev xem:=@List.size_toArray
abbrev xen:=@List.take_length
abbrev xeo:=@List.map_replicate
abbrev xep:=@List.mem_append_right
abbrev xeq:=@Array.toList_setIfInBounds
abbrev xer:=@Array.getElem?_setIfInBounds_ne
abbrev xes:=@List.countP_le_length
abbrev xet:=@Array.getElem?_toList
abbrev xeu:=@List.eq_nil_iff_forall_not_mem
abbrev xev:=@Array.getElem?_setIfInBounds_self_of_lt
abbrev xew:=@Array.mapM_eq_mapM_toList
open Go.RowKit
theorem eE {p:Prop} (h:p):Hid p:=h
def xN (w:World) (g:Nat) (t:TypeId) (cs:Array Value):Prop:=w.heap[g]? = some (.cells cs t (0,0))
section
variable {w w':World} {g:Nat} {t:TypeId} {cs:Array Value}
theorem xN.lt (h:xN w g t cs):g<w.heap.size:=by
 rcases Nat.lt_or_ge g w.heap.size with hlt | hge
 ·exact hlt
 ·unfold xN at h;rw [Array.getElem?_eq_none hge] at h;cases h
theorem xN.cell (h:xN w g t cs) (i:Nat):w.cell? ⟨g,i,none⟩=cs[i]? := by unfold xN at h;simp [World.cell?,h]
theorem xN.frozen (h:xN w g t cs) (i:Nat):w.frozen? ⟨g,i,none⟩=false:=by unfold xN at h;simp [World.frozen?,h]
theorem xN.new (w:World) (t:TypeId) (cs:Array Value):xN (w.alloc (.cells cs t)) w.heap.size t cs:=heap_alloc_new w _
theorem xN.drew (h:xN w g t cs):xN w.drew g t cs:=h
theorem xN.alloc (h:xN w g t cs) (o:Obj):xN (w.alloc o) g t cs:=(Below.heap_alloc w o g h.lt).trans h
theorem xN.set_ (h:xN w g t cs) (i:Nat) (u:Value):xN (w.setCell ⟨g,i,none⟩ u) g t (cs.setIfInBounds i u):=by
 unfold xN at h ⊢;simp [World.setCell,Array.getElem?_modify,h]
theorem xN.grown {row:Option Nat} (h:xN w g t cs) (hb:w.grownBy w' row) (hg:some g ≠ row):xN w' g t cs:=(hb.block g h.lt hg).trans h
end
theorem Ex (w:World) (r:Option Nat):w.grownBy w r:=⟨rfl,rfl,rfl,tJ _,fun _ _ _=>rfl⟩
theorem Ry {a w:World} {r:Option Nat} (h:a.grownBy w r):a.grownBy w.drew r:=⟨h.os,h.tape,h.output,h.size,h.block⟩
theorem FS {a w:World} {r:Option Nat} (h:a.grownBy w r) (o:Obj):a.grownBy (w.alloc o) r:=
 ⟨h.os,h.tape,h.output,Kl h.size (by simp),fun i hi hne=>(Below.heap_alloc w o i (Ql hi h.size)).trans (h.block i hi hne)⟩
theorem gset {a w:World} {r:Option Nat} (h:a.grownBy w r) (g i:Nat) (u:Value) (hg:some g=r ∨ a.heap.size<=g):a.grownBy (w.setCell ⟨g,i,none⟩ u) r:=
 ⟨h.os,h.tape,h.output,by simpa [World.setCell] using h.size,fun k hk hne=>(Below.heap_setCell w ⟨g,i,none⟩ u k (by
  intro e;have e':k=g:=e;subst e'
  rcases hg with hg | hg
  ·exact hne hg
  ·omega)).trans (h.block k hk hne)⟩
abbrev GG:=Nat->Nat->Option Value
def Ez (w:World) (G:GG):Prop:=∀b o v,G b o=some v->w.cell? ⟨b,o,none⟩=some v
def Gy (G:GG) (b:Nat):Prop:=∀o,G b o=none
structure mT (B:Nat) (G G':GG):Prop where
 le:∀b o v,G b o=some v->G' b o=some v
 same:∀b,b<B->∀o,G' b o=G b o
theorem mT.refl (B:Nat) (G:GG):mT B G G:=⟨fun _ _ _ h=>h,fun _ _ _=>rfl⟩
theorem mT.trans {B B':Nat} {G G1 G2:GG} (h:mT B G G1) (k:mT B' G1 G2) (hB:B<=B'):mT B G G2:=
 ⟨fun b o v hv=>k.le b o v (h.le b o v hv),fun b hb o=>(k.same b (Ql hb hB) o).trans (h.same b hb o)⟩
theorem Ez.grown {w w':World} {G:GG} {row:Option Nat} (h:Ez w G) (hg:w.grownBy w' row) (hn:∀r,row=some r->Gy G r):Ez w' G:=by
 intro b o v hv;refine hg.cell (h b o v hv) ?_;intro e;have:=hn b e.symm o;rw [this] at hv;cases hv
theorem Ez.lt {w:World} {G:GG} (h:Ez w G) {b o:Nat} {v:Value} (hv:G b o=some v):b<w.heap.size:=World.block_lt_of_cell? w ⟨b,o,none⟩ (h b o v hv)
theorem Ez.out {w:World} {G:GG} (h:Ez w G) {b:Nat} (hb:w.heap.size<=b):Gy G b:=by
 intro o;cases hv:G b o with
 | none=>rfl
 | some v=>have:=h.lt hv;omega
theorem KV {G:GG} {rb:Nat} (hn:Gy G rb):∀r,some rb=some r->Gy G r:=by
 intro r hr
 injection hr with hr
 subst hr;exact hn
theorem ID {G:GG}:∀r,(none:Option Nat)=some r->Gy G r:=by
 intro r hr;cases hr
theorem Ez.alloc {w:World} {G:GG} (h:Ez w G) (o:Obj):Ez (w.alloc o) G:=h.grown (FS (Ex w none) o) ID
theorem Ez.drew {w:World} {G:GG} (h:Ez w G):Ez w.drew G:=h
theorem Ez.drewN {w:World} {G:GG} (h:Ez w G) (n:Nat):Ez (w.drewN n) G:=h
def HU (G:GG) (b:Nat) (cs:List Value):GG:=fun b' o=>if b'=b then cs[o]? else G b' o
theorem lay_ext {G:GG} {b B:Nat} {cs:List Value} (ho:Gy G b) (hB:B<=b):mT B G (HU G b cs):=by
 refine ⟨fun b' o v hv=>?_,fun b' hb o=>?_⟩
 ·unfold HU
  split
  ·rename_i e;subst e;rw [ho o] at hv;cases hv
  ·exact hv
 ·unfold HU;rw [if_neg (by omega)]
theorem JE {G:GG} {b:Nat} {cs:List Value} (i:Nat):HU G b cs b i=cs[i]? := by simp [HU]
theorem lay_out {G:GG} {b b':Nat} {cs:List Value} (ho:Gy G b') (hne:b' ≠ b):Gy (HU G b cs) b':=by
 intro o;unfold HU;rw [if_neg hne];exact ho o
theorem lay_com {w:World} {G:GG} {b:Nat} {cs:List Value} (h:Ez w G) (hc:∀i u,cs[i]? = some u->w.cell? ⟨b,i,none⟩=some u):Ez w (HU G b cs):=by
 intro b' o v hv;unfold HU at hv
 split at hv
 ·rename_i e;subst e;exact hc o v hv
 ·exact h _ _ _ hv
inductive Na where
 | int (k:IntKind) (n:Int)
 | bool (b:Bool)
 | str (s:ByteArray)
 | node (fs:List Na)
 | list (es:List Na)
inductive xM (G:GG):List Na->List Value->Prop where
 | nil:xM G [] []
 | int {k n ds cs}:(Lit.int k n).wf=true->xM G ds cs->xM G (.int k n::ds) (.int k n::cs)
 | bool {b ds cs}:xM G ds cs->xM G (.bool b::ds) (.bool b::cs)
 | str {s ds cs}:xM G ds cs->xM G (.str s::ds) (.string s::cs)
 | node {fs ds cs1 cs}:xM G fs cs1->xM G ds cs->xM G (.node fs::ds) (cs1++cs)
 | list {es ds cs1 cs a cap}:xM G es cs1->es.length<=cap->cap<=maxLen->(0<es.length->∃b off,a=some ⟨b,off,none⟩/\∀i u,cs1[i]? = some u->G b (off+i)=some u)->xM G ds cs ->
    xM G (.list es::ds) (.slice a es.length cap::cs)
theorem xM.mono {G G':GG} (hle:∀b o v,G b o=some v->G' b o=some v) {ds:List Na} {cs:List Value} (h:xM G ds cs):xM G' ds cs:=by
 induction h with
 | nil=>exact .nil
 | int hw _ ih=>exact .int hw ih
 | bool _ ih=>exact .bool ih
 | str _ ih=>exact .str ih
 | node _ _ ih1 ih2=>exact .node ih1 ih2
 | list _ hc hm ha _ ih1 ih2=>
   refine .list ih1 hc hm (fun hl=>?_) ih2;obtain ⟨b,off,e,h⟩:=ha hl;exact ⟨b,off,e,fun i u hu=>hle _ _ _ (h i u hu)⟩
def CD (G:GG) (es:List Na) (a:Option Addr) (len cap:Nat):Prop:=
 len=es.length/\len<=cap/\cap<=maxLen/\∃cs,xM G es cs/\(0<len->∃b off,a=some ⟨b,off,none⟩/\∀i u,cs[i]? = some u->G b (off+i)=some u)
theorem xM.inv_nil {G:GG} {cs:List Value} (h:xM G [] cs):cs=[]:=by cases h;rfl
theorem xM.inv_int {G:GG} {k n ds cs} (h:xM G (.int k n::ds) cs):∃xs,cs=.int k n::xs/\(Lit.int k n).wf=true/\xM G ds xs:=by cases h with | int hw h=>exact ⟨_,rfl,hw,h⟩
inductive LC:Na->Nat->Prop where
 | int {k n}:LC (.int k n) 1
 | bool {b}:LC (.bool b) 1
 | str {s}:LC (.str s) 1
 | list {es}:LC (.list es) 1
 | node0:LC (.node []) 0
 | node {f fs m n}:LC f m->LC (.node fs) n->LC (.node (f::fs)) (m+n)
structure St (G0:GG) (w0:World) (r:Option Nat) (G:GG) (w:World):Prop where
 ext:mT w0.heap.size G0 G
 com:Ez w G
 gr:w0.grownBy w r
 out:∀g,r=some g->Gy G g/\g<w0.heap.size
structure Ob (B:Nat) (G:GG) (w:World) (b:Nat) (t:TypeId) (cs:Array Value):Prop where
 new:B<=b
 blk:xN w b t cs
 out:Gy G b
section
variable {B:Nat} {G G':GG} {w w':World} {b:Nat} {t:TypeId} {cs:Array Value}
end
structure Row (B:Nat) (G:GG) (w:World) (e:TypeId) (size:Nat) (v:Value) (es:List Na):Prop where
 ex:∃cs,w.ownsRow B e size v es.length cs/\xM G es cs
 out:∀g,v.ownBlock=some g->Gy G g
section
variable {B:Nat} {G G':GG} {w w':World} {e:TypeId} {size:Nat} {v:Value} {es:List Na}
end
def Src (w:World) (x:Value) (m:Nat) (news:List Value):Prop:=∃A c,x=.slice A m c/\(0<m->∃ad:Addr,A=some ad/\∀j u,news[j]? = some u->w.cell? (ad.add j)=some u)
theorem kH (b o j:Nat):(⟨b,o,none⟩:Addr).add j=⟨b,o+j,none⟩:=by unfold Addr.add;split <;> simp_all
section
variable {P:Program} (w:World)
end
open Go.Lib in
section
variable {P:Program}
end
structure Two (G0:GG) (w0:World) (rb tb sb T:Nat) (z:Array Value) (G:GG) (w:World) (cs:Array Value):Prop where
 st:St G0 w0 (some rb) G w
 t:Ob w0.heap.size G w tb T cs
 o:Ob w0.heap.size G w sb T z
 ne:tb ≠ sb
section
variable {G0:GG} {w0:World} {rb tb sb T:Nat} {z:Array Value} {G G':GG} {w w':World} {cs:Array Value}
end
structure WFr (wb:Nat) (row:Option Nat) (w w':World):Prop where
 os:w'.os=w.os
 tape:w'.tape=w.tape
 output:w'.output=w.output
 size:w.heap.size<=w'.heap.size
 block:∀k,k<w.heap.size->k ≠ wb->some k ≠ row->w'.heap[k]? = w.heap[k]?
section
variable {wb:Nat} {row row1:Option Nat} {w w1 w2 w':World} {G:GG}
end
end Go.Proofs.YtncembphlfbgoaaGreatDoor
