import Derived.WalkKit
import Derived.WalkSpells
import Derived.WalkLawsBesides
import Derived.OpenShut
import Derived.Maps.AppendAt
import Derived.Deep.RegionWith
import Derived.Deep.RegionLaw
import Derived.Deep.AppendLies
import Derived.Lib.AppendStr
set_option linter.all false
namespace Go.Proofs.YtnnomaboaiokeaaGreatDoor
theorem rI {p:Prop} (h:p):p:=h
abbrev dW:=@List.length_cons
abbrev eN:=@List.length_nil
abbrev gK:=@List.nil_append
abbrev gV:=@List.map_cons
abbrev gY:=@List.getElem?_map
abbrev gX:=@List.length_map
abbrev iF:=@List.append_nil
abbrev iE:=@List.drop_zero
abbrev iH:=@List.cons_append
abbrev iJ:=@Option.map_some
abbrev iK:=@List.not_mem_nil
abbrev iR:=@Option.bind_some
abbrev iS:=@List.map_nil
abbrev iV:=@List.drop_succ_cons
abbrev iU:=@List.getElem?_cons_succ
abbrev iX:=@List.toList_toArray
abbrev iW:=@List.getElem?_cons_zero
abbrev jB:=@List.take_succ_cons
abbrev jA:=@List.set_cons_zero
abbrev iZ:=@List.set_cons_succ
abbrev jH:=@List.forall_mem_cons
abbrev jG:=@List.take_zero
abbrev jF:=@Bool.true_and
abbrev jP:=@Bool.and_true
abbrev jO:=@Bool.not_true
abbrev jN:=@Bool.not_false
abbrev jV:=@Option.map_none
abbrev jU:=@Bool.or_true
abbrev jT:=@Bool.true_or
abbrev jR:=@Nat.zero_ne_one
abbrev jQ:=@Nat.one_ne_zero
abbrev mS:=@List.length_append
abbrev qV:=@List.length_set
abbrev tJ:=@Nat.le_refl
abbrev vE:=@List.getElem?_eq_some_iff
abbrev vD:=@List.getElem?_eq_getElem
abbrev vM:=@List.length_singleton
abbrev zK:=@List.mem_append
abbrev As:=@List.mem_singleton
abbrev Ar:=@decide_eq_true
abbrev AP:=@List.mem_cons
abbrev BJ:=@decide_eq_true_eq
abbrev BI:=@of_decide_eq_true
abbrev Ch:=@List.length_replicate
abbrev Cv:=@Nat.zero_add
abbrev Di:=@Int.toNat_natCast
abbrev EE:=@Bool.false_eq_true
abbrev EI:=@Array.getD_eq_getD_getElem?
abbrev ET:=@List.mem_of_getElem?
abbrev GC:=@List.flatten_cons
abbrev GB:=@Nat.add_assoc
abbrev Hv:=@List.mem_filter
abbrev Ib:=@Bool.and_eq_true
abbrev Ia:=@List.mem_map
abbrev Iv:=@List.all_eq_true
abbrev IP:=@Nat.succ_mul
abbrev Je:=@List.append_assoc
abbrev Jc:=@List.length_take
abbrev Jb:=@List.mem_append_left
abbrev Ja:=@Nat.succ_ne_self
abbrev Ko:=@List.isSuffixOf_iff_suffix
abbrev Kn:=@List.replicate_succ
abbrev Kt:=@Nat.zero_le
abbrev KS:=@Nat.le_trans
abbrev KR:=@List.suffix_refl
abbrev KQ:=@List.cons_ne_self
abbrev Mu:=@List.mem_cons_of_mem
abbrev Mt:=@Nat.lt_succ_self
abbrev Ms:=@List.mem_append_right
abbrev ME:=@List.getElem?_append_left
abbrev MD:=@List.getElem_mem
abbrev MC:=@List.prefix_append
abbrev Oa:=@List.getElem?_append_right
abbrev NZ:=@List.mem_range
abbrev NY:=@List.mem_of_mem_take
abbrev NW:=@List.drop_eq_getElem_cons
abbrev Of:=@List.getElem?_set_ne
abbrev Oe:=@List.getElem?_set
abbrev Pl:=@List.getElem?_set_self
abbrev Pk:=@List.length_drop
abbrev Pj:=@of_decide_eq_false
abbrev Qi:=@Array.length_toList
abbrev Qh:=@Bool.or_eq_true
abbrev Qg:=@List.map_append
abbrev Qf:=@Bool.not_eq_true'
abbrev Qe:=@List.replicate_zero
abbrev Qd:=@List.prefix_refl
abbrev RS:=@List.ext_getElem?
abbrev RR:=@List.filter_cons
abbrev RQ:=@List.countP_cons
abbrev RP:=@Array.getElem?_eq_getElem
abbrev Sj:=@Nat.lt_of_lt_of_le
abbrev Si:=@List.getElem?_mapIdx
abbrev Sg:=@List.mem_or_eq_of_mem_set
abbrev Sf:=@List.map_congr_left
abbrev Se:=@List.append_of_mem
abbrev Sd:=@List.filter_append
abbrev Sc:=@Nat.mul_one
abbrev Sb:=@List.mem_of_mem_drop
abbrev xdv:=@List.getElem?_toArray
abbrev xdw:=@Nat.add_mul
abbrev xdx:=@List.getElem?_eq_none
abbrev xdy:=@Nat.mul_le_mul_right
abbrev xdz:=@List.contains_iff_mem
abbrev xea:=@List.filter_congr
abbrev xeb:=@Int.le_refl
abbrev xec:=@List.getElem?_take
abbrev xed:=@Nat.lt_or_ge
abbrev xee:=@List.mem_replicate
abbrev xef:=@List.drop_eq_nil_of_le
abbrev xeg:=@List.getElem?_drop
abbrev xeh:=@Nat.min_eq_left
abbrev xei:=@Sum.elim_inr
abbrev xej:=@List.mem_cons_self
abbrev xek:=@Nat.add_zero
abbrev xel:=@Option.getD_some
abbrev xem:=@List.map_map
abbrev xen:=@List.head?_drop
abbrev xeo:=@List.take_of_length_le
abbrev xep:=@decide_eq_false
abbrev xeq:=@Sum.elim_inl
abbrev xer:=@Bool.or_eq_false_iff
abbrev xes:=@Array.getElem?_replicate
abbrev xet:=@List.size_toArray
abbrev xeu:=@List.any_eq_true
abbrev xev:=@List.take_length
abbrev xew:=@Array.getElem?_toList
abbrev xex:=@List.drop_of_length_le
abbrev xey:=@Array.toList_setIfInBounds
abbrev xez:=@Array.getElem?_setIfInBounds_ne
abbrev xfa:=@List.mem_map_of_mem
abbrev xfb:=@List.countP_le_length
abbrev xfc:=@List.take_append_drop
abbrev xfd:=@List.getElem?_take_of_lt
abbrev xfe:=@List.eq_nil_iff_forall_not_mem
abbrev xff:=@Array.getElem?_setIfInBounds_self_of_lt
abbrev xfg:=@Array.mapM_eq_mapM_toList
open Go.RowKit
theorem eO {p:Prop} (h:p):Hid p:=h
def Aq (w:World) (g:Nat) (t:TypeId) (cs:Array Value):Prop:=w.heap[g]? = some (.cells cs t (0,0))
section
variable {w w':World} {g:Nat} {t:TypeId} {cs:Array Value}
theorem Aq.lt (h:Aq w g t cs):g<w.heap.size:=by
 rcases xed g w.heap.size with hlt | hge
 ·exact hlt
 ·unfold Aq at h;rw [Array.getElem?_eq_none hge] at h;cases h
theorem Aq.cell (h:Aq w g t cs) (i:Nat):w.cell? ⟨g,i,none⟩=cs[i]? := by unfold Aq at h;simp [World.cell?,h]
theorem Aq.frozen (h:Aq w g t cs) (i:Nat):w.frozen? ⟨g,i,none⟩=false:=by unfold Aq at h;simp [World.frozen?,h]
theorem Aq.new (w:World) (t:TypeId) (cs:Array Value):Aq (w.alloc (.cells cs t)) w.heap.size t cs:=heap_alloc_new w _
theorem Aq.drew (h:Aq w g t cs):Aq w.drew g t cs:=h
theorem Aq.alloc (h:Aq w g t cs) (o:Obj):Aq (w.alloc o) g t cs:=(Below.heap_alloc w o g h.lt).trans h
theorem Aq.set_ (h:Aq w g t cs) (i:Nat) (u:Value):Aq (w.setCell ⟨g,i,none⟩ u) g t (cs.setIfInBounds i u):=by
 unfold Aq at h ⊢;simp [World.setCell,Array.getElem?_modify,h]
theorem Aq.grown {row:Option Nat} (h:Aq w g t cs) (hb:w.grownBy w' row) (hg:some g ≠ row):Aq w' g t cs:=(hb.block g h.lt hg).trans h
end
theorem Gc (w:World) (r:Option Nat):w.grownBy w r:=⟨rfl,rfl,rfl,tJ _,λ_ _ _=>rfl⟩
theorem TQ {a w:World} {r:Option Nat} (h:a.grownBy w r):a.grownBy w.drew r:=⟨h.os,h.tape,h.output,h.size,h.block⟩
theorem HO {a w:World} {r:Option Nat} (h:a.grownBy w r) (o:Obj):a.grownBy (w.alloc o) r:=
 ⟨h.os,h.tape,h.output,KS h.size (by simp),λi hi hne=>(Below.heap_alloc w o i (Sj hi h.size)).trans (h.block i hi hne)⟩
theorem gset {a w:World} {r:Option Nat} (h:a.grownBy w r) (g i:Nat) (u:Value) (hg:some g=r ∨ a.heap.size<=g):a.grownBy (w.setCell ⟨g,i,none⟩ u) r:=
 ⟨h.os,h.tape,h.output,by simpa [World.setCell] using h.size,λk hk hne=>(Below.heap_setCell w ⟨g,i,none⟩ u k (by
  intro e;have e':k=g:=e;subst e'
  rcases hg with hg | hg
  ·exact hne hg
  ·omega)).trans (h.block k hk hne)⟩
abbrev GG:=Nat->Nat->Option Value
def FA (w:World) (G:GG):Prop:=∀b o v,G b o=some v->w.cell? ⟨b,o,none⟩=some v
def Iu (G:GG) (b:Nat):Prop:=∀o,G b o=none
structure oF (B:Nat) (G G':GG):Prop where
 le:∀b o v,G b o=some v->G' b o=some v
 same:∀b,b<B->∀o,G' b o=G b o
theorem oF.refl (B:Nat) (G:GG):oF B G G:=⟨λ_ _ _ h=>h,λ_ _ _=>rfl⟩
theorem oF.trans {B B':Nat} {G G1 G2:GG} (h:oF B G G1) (k:oF B' G1 G2) (hB:B<=B'):oF B G G2:=
 ⟨λb o v hv=>k.le b o v (h.le b o v hv),λb hb o=>(k.same b (Sj hb hB) o).trans (h.same b hb o)⟩
theorem FA.grown {w w':World} {G:GG} {row:Option Nat} (h:FA w G) (hg:w.grownBy w' row) (hn:∀r,row=some r->Iu G r):FA w' G:=by
 intro b o v hv;refine hg.cell (h b o v hv) ?_;intro e;have:=hn b e.symm o;rw [this] at hv;cases hv
theorem FA.lt {w:World} {G:GG} (h:FA w G) {b o:Nat} {v:Value} (hv:G b o=some v):b<w.heap.size:=World.block_lt_of_cell? w ⟨b,o,none⟩ (h b o v hv)
theorem FA.out {w:World} {G:GG} (h:FA w G) {b:Nat} (hb:w.heap.size<=b):Iu G b:=by
 intro o;cases hv:G b o with
 | none=>rfl
 | some v=>have:=h.lt hv;omega
theorem Nj {G:GG} {rb:Nat} (hn:Iu G rb):∀r,some rb=some r->Iu G r:=by
 intro r hr
 injection hr with hr
 subst hr;exact hn
theorem Lg {G:GG}:∀r,(none:Option Nat)=some r->Iu G r:=by
 intro r hr;cases hr
theorem FA.alloc {w:World} {G:GG} (h:FA w G) (o:Obj):FA (w.alloc o) G:=h.grown (HO (Gc w none) o) Lg
theorem FA.drew {w:World} {G:GG} (h:FA w G):FA w.drew G:=h
theorem FA.drewN {w:World} {G:GG} (h:FA w G) (n:Nat):FA (w.drewN n) G:=h
def JK (G:GG) (b:Nat) (cs:List Value):GG:=λb' o=>if b'=b then cs[o]? else G b' o
theorem lay_ext {G:GG} {b B:Nat} {cs:List Value} (ho:Iu G b) (hB:B<=b):oF B G (JK G b cs):=by
 refine ⟨λb' o v hv=>?_,λb' hb o=>?_⟩
 ·unfold JK
  split
  ·rename_i e;subst e;rw [ho o] at hv;cases hv
  ·exact hv
 ·unfold JK;rw [if_neg (by omega)]
theorem JJ {G:GG} {b:Nat} {cs:List Value} (i:Nat):JK G b cs b i=cs[i]? := by simp [JK]
theorem lay_out {G:GG} {b b':Nat} {cs:List Value} (ho:Iu G b') (hne:b' ≠ b):Iu (JK G b cs) b':=by
 intro o;unfold JK;rw [if_neg hne];exact ho o
theorem lay_com {w:World} {G:GG} {b:Nat} {cs:List Value} (h:FA w G) (hc:∀i u,cs[i]? = some u->w.cell? ⟨b,i,none⟩=some u):FA w (JK G b cs):=by
 intro b' o v hv;unfold JK at hv
 split at hv
 ·rename_i e;subst e;exact hc o v hv
 ·exact h _ _ _ hv
inductive Pi where
 | int (k:IntKind) (n:Int)
 | bool (b:Bool)
 | str (s:ByteArray)
 | node (fs:List Pi)
 | list (es:List Pi)
inductive Ap (G:GG):List Pi->List Value->Prop where
 | nil:Ap G [] []
 | int {k n ds cs}:(Lit.int k n).wf=true->Ap G ds cs->Ap G (.int k n::ds) (.int k n::cs)
 | bool {b ds cs}:Ap G ds cs->Ap G (.bool b::ds) (.bool b::cs)
 | str {s ds cs}:Ap G ds cs->Ap G (.str s::ds) (.string s::cs)
 | node {fs ds cs1 cs}:Ap G fs cs1->Ap G ds cs->Ap G (.node fs::ds) (cs1++cs)
 | list {es ds cs1 cs a cap}:Ap G es cs1->es.length<=cap->cap<=maxLen->(0<es.length->∃b off,a=some ⟨b,off,none⟩/\∀i u,cs1[i]? = some u->G b (off+i)=some u)->Ap G ds cs ->
    Ap G (.list es::ds) (.slice a es.length cap::cs)
theorem Ap.mono {G G':GG} (hle:∀b o v,G b o=some v->G' b o=some v) {ds:List Pi} {cs:List Value} (h:Ap G ds cs):Ap G' ds cs:=by
 induction h with
 | nil=>exact .nil
 | int hw _ ih=>exact .int hw ih
 | bool _ ih=>exact .bool ih
 | str _ ih=>exact .str ih
 | node _ _ ih1 ih2=>exact .node ih1 ih2
 | list _ hc hm ha _ ih1 ih2=>
   refine .list ih1 hc hm (λhl=>?_) ih2;obtain ⟨b,off,e,h⟩:=ha hl;exact ⟨b,off,e,λi u hu=>hle _ _ _ (h i u hu)⟩
def Ey (G:GG) (es:List Pi) (a:Option Addr) (len cap:Nat):Prop:=
 len=es.length/\len<=cap/\cap<=maxLen/\∃cs,Ap G es cs/\(0<len->∃b off,a=some ⟨b,off,none⟩/\∀i u,cs[i]? = some u->G b (off+i)=some u)
theorem Ap.inv_nil {G:GG} {cs:List Value} (h:Ap G [] cs):cs=[]:=by cases h;rfl
theorem Ap.inv_int {G:GG} {k n ds cs} (h:Ap G (.int k n::ds) cs):∃xs,cs=.int k n::xs/\(Lit.int k n).wf=true/\Ap G ds xs:=by cases h with | int hw h=>exact ⟨_,rfl,hw,h⟩
inductive NN:Pi->Nat->Prop where
 | int {k n}:NN (.int k n) 1
 | bool {b}:NN (.bool b) 1
 | str {s}:NN (.str s) 1
 | list {es}:NN (.list es) 1
 | node0:NN (.node []) 0
 | node {f fs m n}:NN f m->NN (.node fs) n->NN (.node (f::fs)) (m+n)
structure St (G0:GG) (w0:World) (r:Option Nat) (G:GG) (w:World):Prop where
 ext:oF w0.heap.size G0 G
 com:FA w G
 gr:w0.grownBy w r
 out:∀g,r=some g->Iu G g/\g<w0.heap.size
structure Ob (B:Nat) (G:GG) (w:World) (b:Nat) (t:TypeId) (cs:Array Value):Prop where
 new:B<=b
 blk:Aq w b t cs
 out:Iu G b
section
variable {B:Nat} {G G':GG} {w w':World} {b:Nat} {t:TypeId} {cs:Array Value}
end
structure Row (B:Nat) (G:GG) (w:World) (e:TypeId) (size:Nat) (v:Value) (es:List Pi):Prop where
 ex:∃cs,w.ownsRow B e size v es.length cs/\Ap G es cs
 out:∀g,v.ownBlock=some g->Iu G g
section
variable {B:Nat} {G G':GG} {w w':World} {e:TypeId} {size:Nat} {v:Value} {es:List Pi}
end
def Src (w:World) (x:Value) (m:Nat) (news:List Value):Prop:=∃A c,x=.slice A m c/\(0<m->∃ad:Addr,A=some ad/\∀j u,news[j]? = some u->w.cell? (ad.add j)=some u)
theorem mN (b o j:Nat):(⟨b,o,none⟩:Addr).add j=⟨b,o+j,none⟩:=by unfold Addr.add;split <;> simp_all
section
variable {P:Program} (w:World)
end
open Go.Lib in
section
variable {P:Program}
end
structure Two (G0:GG) (w0:World) (rb tb sb T:Nat) (z:Array Value) (G:GG) (w:World) (cs:Array Value):Prop where
 st:St G0 w0 (some rb) G w
 t:Ob w0.heap.size G w tb T cs
 o:Ob w0.heap.size G w sb T z
 ne:tb ≠ sb
section
variable {G0:GG} {w0:World} {rb tb sb T:Nat} {z:Array Value} {G G':GG} {w w':World} {cs:Array Value}
end
structure WFr (wb:Nat) (row:Option Nat) (w w':World):Prop where
 os:w'.os=w.os
 tape:w'.tape=w.tape
 output:w'.output=w.output
 size:w.heap.size<=w'.heap.size
 block:∀k,k<w.heap.size->k ≠ wb->some k ≠ row->w'.heap[k]? = w.heap[k]?
section
variable {wb:Nat} {row row1:Option Nat} {w w1 w2 w':World} {G:GG}
end
