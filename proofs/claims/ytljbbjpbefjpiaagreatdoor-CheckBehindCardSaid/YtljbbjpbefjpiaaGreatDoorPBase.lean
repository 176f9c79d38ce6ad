import Derived.WalkKit
import Derived.WalkSpells
import Derived.WalkLawsBesides
import Derived.OpenShut
import Derived.Maps.AppendAt
import Derived.Deep.RegionWith
import Derived.Deep.RegionLaw
import Derived.Deep.AppendLies
import Derived.Lib.AppendStr
set_option linter.all false
namespace Go.Proofs.YtljbbjpbefjpiaaGreatDoor
theorem rI {p:Prop} (h:p):p:=h
abbrev bU:=@Option.bind_some
abbrev gK:=@List.length_cons
abbrev iC:=@List.cons_append
abbrev iG:=@List.map_cons
abbrev iT:=@List.length_nil
abbrev iV:=@List.nil_append
abbrev jA:=@List.map_nil
abbrev jJ:=@List.getElem?_map
abbrev jI:=@List.length_map
abbrev jR:=@List.append_nil
abbrev jV:=@Option.map_some
abbrev jU:=@List.drop_zero
abbrev kE:=@List.not_mem_nil
abbrev kQ:=@List.drop_succ_cons
abbrev kP:=@List.getElem?_cons_succ
abbrev kO:=@List.toList_toArray
abbrev kN:=@List.take_succ_cons
abbrev kU:=@List.set_cons_zero
abbrev kT:=@List.set_cons_succ
abbrev kS:=@List.getElem?_cons_zero
abbrev kY:=@Bool.and_true
abbrev kX:=@List.forall_mem_cons
abbrev kW:=@Bool.not_false
abbrev lD:=@List.take_zero
abbrev lC:=@Bool.not_true
abbrev lB:=@Bool.true_and
abbrev lI:=@Option.map_none
abbrev lH:=@Bool.or_true
abbrev lG:=@Bool.true_or
abbrev lF:=@Nat.zero_ne_one
abbrev lE:=@Nat.one_ne_zero
abbrev mK:=@List.length_append
abbrev mQ:=@List.length_singleton
abbrev tM:=@Nat.le_refl
abbrev uD:=@List.getElem?_eq_some_iff
abbrev uH:=@decide_eq_true_eq
abbrev vX:=@List.length_set
abbrev xM:=@List.append_assoc
abbrev yP:=@List.getElem?_eq_getElem
abbrev yV:=@Int.toNat_natCast
abbrev BO:=@Bool.and_eq_true
abbrev BN:=@Bool.false_eq_true
abbrev BQ:=@List.mem_append
abbrev BP:=@List.mem_cons
abbrev DD:=@decide_eq_true
abbrev DX:=@List.mem_singleton
abbrev EE:=@Array.getD_eq_getD_getElem?
abbrev EG:=@List.all_eq_true
abbrev Fw:=@List.mem_of_getElem?
abbrev Ge:=@List.mem_map
abbrev Gx:=@List.mem_filter
abbrev Gw:=@List.length_drop
abbrev GM:=@of_decide_eq_true
abbrev Hc:=@List.flatten_cons
abbrev Hb:=@Nat.succ_ne_self
abbrev Io:=@Nat.succ_mul
abbrev In:=@List.length_take
abbrev IB:=@List.cons_ne_self
abbrev Jl:=@List.suffix_refl
abbrev Jk:=@List.mem_cons_of_mem
abbrev Ki:=@Nat.le_trans
abbrev Kr:=@List.getElem?_append_left
abbrev Kq:=@Bool.or_eq_true
abbrev LF:=@Nat.zero_add
abbrev LE:=@List.mem_of_mem_take
abbrev LH:=@List.getElem?_set
abbrev MW:=@List.map_append
abbrev MV:=@Nat.lt_succ_self
abbrev NW:=@List.getElem?_append_right
abbrev NV:=@Array.length_toList
abbrev NU:=@Bool.not_eq_true'
abbrev NT:=@List.isSuffixOf_iff_suffix
abbrev NS:=@Nat.zero_le
abbrev NR:=@Int.le_refl
abbrev NQ:=@List.mem_cons_self
abbrev NP:=@List.drop_eq_getElem_cons
abbrev Qd:=@List.ext_getElem?
abbrev Qc:=@List.getElem?_set_self
abbrev Qb:=@List.filter_cons
abbrev Qa:=@List.countP_cons
abbrev PY:=@List.mem_range
abbrev Qp:=@Nat.lt_of_lt_of_le
abbrev Qo:=@List.mem_or_eq_of_mem_set
abbrev Qn:=@List.getElem?_set_ne
abbrev Qm:=@List.filter_append
abbrev Ql:=@Nat.mul_one
abbrev Qk:=@List.mem_of_mem_drop
abbrev Qj:=@Sum.elim_inl
abbrev xdk:=@List.getElem?_toArray
abbrev xdl:=@Nat.add_mul
abbrev xdm:=@List.map_congr_left
abbrev xdn:=@Bool.or_eq_false_iff
abbrev xdo:=@List.append_of_mem
abbrev xdp:=@List.filter_congr
abbrev xdq:=@List.take_of_length_le
abbrev xdr:=@List.getElem_mem
abbrev xds:=@List.mem_replicate
abbrev xdt:=@List.prefix_refl
abbrev xdu:=@List.getElem?_mapIdx
abbrev xdv:=@Nat.add_zero
abbrev xdw:=@List.getElem?_eq_none
abbrev xdx:=@Nat.mul_le_mul_right
abbrev xdy:=@Option.getD_some
abbrev xdz:=@List.map_map
abbrev xea:=@Array.getElem?_eq_getElem
abbrev xeb:=@List.getElem?_drop
abbrev xec:=@Nat.lt_irrefl
abbrev xed:=@List.contains_iff_mem
abbrev xee:=@List.getElem?_take
abbrev xef:=@Nat.min_eq_left
abbrev xeg:=@Sum.elim_inr
abbrev xeh:=@Int.add_zero
abbrev xei:=@List.drop_eq_nil_of_le
abbrev xej:=@Int.add_assoc
abbrev xek:=@List.drop_append
abbrev xel:=@List.head?_drop
abbrev xem:=@List.replicate_succ
abbrev xen:=@List.mem_append_right
abbrev xeo:=@List.mem_map_of_mem
abbrev xep:=@Array.getElem?_replicate
abbrev xeq:=@List.any_eq_true
abbrev xer:=@List.take_length
abbrev xes:=@List.length_replicate
abbrev xet:=@List.prefix_append
abbrev xeu:=@List.drop_of_length_le
abbrev xev:=@Array.toList_setIfInBounds
abbrev xew:=@List.getElem?_take_of_lt
abbrev xex:=@List.take_append_drop
abbrev xey:=@List.take_append_of_le_length
abbrev xez:=@List.takeWhile_cons_of_neg
abbrev xfa:=@Array.getElem?_setIfInBounds_ne
abbrev xfb:=@Array.mapM_eq_mapM_toList
abbrev xfc:=@List.mem_of_find?_eq_some
abbrev xfd:=@Array.getElem?_setIfInBounds_self_of_lt
open Go.RowKit
theorem gS {p:Prop} (h:p):Hid p:=h
def xV (w:World) (g:Nat) (t:TypeId) (cs:Array Value):Prop:=w.heap[g]? = some (.cells cs t (0,0))
section
variable {w w':World} {g:Nat} {t:TypeId} {cs:Array Value}
theorem xV.lt (h:xV w g t cs):g<w.heap.size:=by
 rcases Nat.lt_or_ge g w.heap.size with hlt | hge
 ·exact hlt
 ·unfold xV at h;rw [Array.getElem?_eq_none hge] at h;cases h
theorem xV.cell (h:xV w g t cs) (i:Nat):w.cell? ⟨g,i,none⟩=cs[i]? := by unfold xV at h;simp [World.cell?,h]
theorem xV.frozen (h:xV w g t cs) (i:Nat):w.frozen? ⟨g,i,none⟩=false:=by unfold xV at h;simp [World.frozen?,h]
theorem xV.new (w:World) (t:TypeId) (cs:Array Value):xV (w.alloc (.cells cs t)) w.heap.size t cs:=heap_alloc_new w _
theorem xV.drew (h:xV w g t cs):xV w.drew g t cs:=h
theorem xV.alloc (h:xV w g t cs) (o:Obj):xV (w.alloc o) g t cs:=(Below.heap_alloc w o g h.lt).trans h
theorem xV.set_ (h:xV w g t cs) (i:Nat) (u:Value):xV (w.setCell ⟨g,i,none⟩ u) g t (cs.setIfInBounds i u):=by
 unfold xV at h ⊢;simp [World.setCell,Array.getElem?_modify,h]
theorem xV.grown {row:Option Nat} (h:xV w g t cs) (hb:w.grownBy w' row) (hg:some g ≠ row):xV w' g t cs:=(hb.block g h.lt hg).trans h
end
theorem Ec (w:World) (r:Option Nat):w.grownBy w r:=⟨rfl,rfl,rfl,tM _,λ_ _ _=>rfl⟩
theorem RK {a w:World} {r:Option Nat} (h:a.grownBy w r):a.grownBy w.drew r:=⟨h.os,h.tape,h.output,h.size,h.block⟩
theorem FQ {a w:World} {r:Option Nat} (h:a.grownBy w r) (o:Obj):a.grownBy (w.alloc o) r:=
 ⟨h.os,h.tape,h.output,Ki h.size (by simp),λi hi hne=>(Below.heap_alloc w o i (Qp hi h.size)).trans (h.block i hi hne)⟩
theorem gset {a w:World} {r:Option Nat} (h:a.grownBy w r) (g i:Nat) (u:Value) (hg:some g=r ∨ a.heap.size<=g):a.grownBy (w.setCell ⟨g,i,none⟩ u) r:=
 ⟨h.os,h.tape,h.output,by simpa [World.setCell] using h.size,λk hk hne=>(Below.heap_setCell w ⟨g,i,none⟩ u k (by
  intro e;have e':k=g:=e;subst e'
  rcases hg with hg | hg
  ·exact hne hg
  ·omega)).trans (h.block k hk hne)⟩
abbrev GG:=Nat->Nat->Option Value
def DC (w:World) (G:GG):Prop:=∀b o v,G b o=some v->w.cell? ⟨b,o,none⟩=some v
def Gv (G:GG) (b:Nat):Prop:=∀o,G b o=none
structure oM (B:Nat) (G G':GG):Prop where
 le:∀b o v,G b o=some v->G' b o=some v
 same:∀b,b<B->∀o,G' b o=G b o
theorem oM.refl (B:Nat) (G:GG):oM B G G:=⟨λ_ _ _ h=>h,λ_ _ _=>rfl⟩
theorem oM.trans {B B':Nat} {G G1 G2:GG} (h:oM B G G1) (k:oM B' G1 G2) (hB:B<=B'):oM B G G2:=
 ⟨λb o v hv=>k.le b o v (h.le b o v hv),λb hb o=>(k.same b (Qp hb hB) o).trans (h.same b hb o)⟩
theorem DC.grown {w w':World} {G:GG} {row:Option Nat} (h:DC w G) (hg:w.grownBy w' row) (hn:∀r,row=some r->Gv G r):DC w' G:=by
 intro b o v hv;refine hg.cell (h b o v hv) ?_;intro e;have:=hn b e.symm o;rw [this] at hv;cases hv
theorem DC.lt {w:World} {G:GG} (h:DC w G) {b o:Nat} {v:Value} (hv:G b o=some v):b<w.heap.size:=World.block_lt_of_cell? w ⟨b,o,none⟩ (h b o v hv)
theorem DC.out {w:World} {G:GG} (h:DC w G) {b:Nat} (hb:w.heap.size<=b):Gv G b:=by
 intro o;cases hv:G b o with
 | none=>rfl
 | some v=>have:=h.lt hv;omega
theorem KN {G:GG} {rb:Nat} (hn:Gv G rb):∀r,some rb=some r->Gv G r:=by
 intro r hr
 injection hr with hr
 subst hr;exact hn
theorem IL {G:GG}:∀r,(none:Option Nat)=some r->Gv G r:=by
 intro r hr;cases hr
theorem DC.alloc {w:World} {G:GG} (h:DC w G) (o:Obj):DC (w.alloc o) G:=h.grown (FQ (Ec w none) o) IL
theorem DC.drew {w:World} {G:GG} (h:DC w G):DC w.drew G:=h
theorem DC.drewN {w:World} {G:GG} (h:DC w G) (n:Nat):DC (w.drewN n) G:=h
def HM (G:GG) (b:Nat) (cs:List Value):GG:=λb' o=>if b'=b then cs[o]? else G b' o
theorem lay_ext {G:GG} {b B:Nat} {cs:List Value} (ho:Gv G b) (hB:B<=b):oM B G (HM G b cs):=by
 refine ⟨λb' o v hv=>?_,λb' hb o=>?_⟩
 ·unfold HM
  split
  ·rename_i e;subst e;rw [ho o] at hv;cases hv
  ·exact hv
 ·unfold HM;rw [if_neg (by omega)]
theorem HL {G:GG} {b:Nat} {cs:List Value} (i:Nat):HM G b cs b i=cs[i]? := by simp [HM]
theorem lay_out {G:GG} {b b':Nat} {cs:List Value} (ho:Gv G b') (hne:b' ≠ b):Gv (HM G b cs) b':=by
 intro o;unfold HM;rw [if_neg hne];exact ho o
theorem lay_com {w:World} {G:GG} {b:Nat} {cs:List Value} (h:DC w G) (hc:∀i u,cs[i]? = some u->w.cell? ⟨b,i,none⟩=some u):DC w (HM G b cs):=by
 intro b' o v hv;unfold HM at hv
 split at hv
 ·rename_i e;subst e;exact hc o v hv
 ·exact h _ _ _ hv
inductive MT where
 | int (k:IntKind) (n:Int)
 | bool (b:Bool)
 | str (s:ByteArray)
 | node (fs:List MT)
 | list (es:List MT)
inductive xU (G:GG):List MT->List Value->Prop where
 | nil:xU G [] []
 | int {k n ds cs}:(Lit.int k n).wf=true->xU G ds cs->xU G (.int k n::ds) (.int k n::cs)
 | bool {b ds cs}:xU G ds cs->xU G (.bool b::ds) (.bool b::cs)
 | str {s ds cs}:xU G ds cs->xU G (.str s::ds) (.string s::cs)
 | node {fs ds cs1 cs}:xU G fs cs1->xU G ds cs->xU G (.node fs::ds) (cs1++cs)
 | list {es ds cs1 cs a cap}:xU G es cs1->es.length<=cap->cap<=maxLen->(0<es.length->∃b off,a=some ⟨b,off,none⟩/\∀i u,cs1[i]? = some u->G b (off+i)=some u)->xU G ds cs ->
    xU G (.list es::ds) (.slice a es.length cap::cs)
theorem xU.mono {G G':GG} (hle:∀b o v,G b o=some v->G' b o=some v) {ds:List MT} {cs:List Value} (h:xU G ds cs):xU G' ds cs:=by
 induction h with
 | nil=>exact .nil
 | int hw _ ih=>exact .int hw ih
 | bool _ ih=>exact .bool ih
 | str _ ih=>exact .str ih
 | node _ _ ih1 ih2=>exact .node ih1 ih2
 | list _ hc hm ha _ ih1 ih2=>
   refine .list ih1 hc hm (λhl=>?_) ih2;obtain ⟨b,off,e,h⟩:=ha hl;exact ⟨b,off,e,λi u hu=>hle _ _ _ (h i u hu)⟩
def CB (G:GG) (es:List MT) (a:Option Addr) (len cap:Nat):Prop:=
 len=es.length/\len<=cap/\cap<=maxLen/\∃cs,xU G es cs/\(0<len->∃b off,a=some ⟨b,off,none⟩/\∀i u,cs[i]? = some u->G b (off+i)=some u)
theorem xU.inv_nil {G:GG} {cs:List Value} (h:xU G [] cs):cs=[]:=by cases h;rfl
theorem xU.inv_int {G:GG} {k n ds cs} (h:xU G (.int k n::ds) cs):∃xs,cs=.int k n::xs/\(Lit.int k n).wf=true/\xU G ds xs:=by cases h with | int hw h=>exact ⟨_,rfl,hw,h⟩
inductive Lu:MT->Nat->Prop where
 | int {k n}:Lu (.int k n) 1
 | bool {b}:Lu (.bool b) 1
 | str {s}:Lu (.str s) 1
 | list {es}:Lu (.list es) 1
 | node0:Lu (.node []) 0
 | node {f fs m n}:Lu f m->Lu (.node fs) n->Lu (.node (f::fs)) (m+n)
structure St (G0:GG) (w0:World) (r:Option Nat) (G:GG) (w:World):Prop where
 ext:oM w0.heap.size G0 G
 com:DC w G
 gr:w0.grownBy w r
 out:∀g,r=some g->Gv G g/\g<w0.heap.size
structure Ob (B:Nat) (G:GG) (w:World) (b:Nat) (t:TypeId) (cs:Array Value):Prop where
 new:B<=b
 blk:xV w b t cs
 out:Gv G b
section
variable {B:Nat} {G G':GG} {w w':World} {b:Nat} {t:TypeId} {cs:Array Value}
end
structure Row (B:Nat) (G:GG) (w:World) (e:TypeId) (size:Nat) (v:Value) (es:List MT):Prop where
 ex:∃cs,w.ownsRow B e size v es.length cs/\xU G es cs
 out:∀g,v.ownBlock=some g->Gv G g
section
variable {B:Nat} {G G':GG} {w w':World} {e:TypeId} {size:Nat} {v:Value} {es:List MT}
end
def Src (w:World) (x:Value) (m:Nat) (news:List Value):Prop:=∃A c,x=.slice A m c/\(0<m->∃ad:Addr,A=some ad/\∀j u,news[j]? = some u->w.cell? (ad.add j)=some u)
theorem nD (b o j:Nat):(⟨b,o,none⟩:Addr).add j=⟨b,o+j,none⟩:=by unfold Addr.add;split <;> simp_all
section
variable {P:Program} (w:World)
end
open Go.Lib in
section
variable {P:Program}
end
structure Two (G0:GG) (w0:World) (rb tb sb T:Nat) (z:Array Value) (G:GG) (w:World) (cs:Array Value):Prop where
 st:St G0 w0 (some rb) G w
 t:Ob w0.heap.size G w tb T cs
 o:Ob w0.heap.size G w sb T z
 ne:tb ≠ sb
section
variable {G0:GG} {w0:World} {rb tb sb T:Nat} {z:Array Value} {G G':GG} {w w':World} {cs:Array Value}
end
structure WFr (wb:Nat) (row:Option Nat) (w w':World):Prop where
 os:w'.os=w.os
 tape:w'.tape=w.tape
 output:w'.output=w.output
 size:w.heap.size<=w'.heap.size
 block:∀k,k<w.heap.size->k ≠ wb->some k ≠ row->w'.heap[k]? = w.heap[k]?
section
variable {wb:Nat} {row row1:Option Nat} {w w1 w2 w':World} {G:GG}
end
