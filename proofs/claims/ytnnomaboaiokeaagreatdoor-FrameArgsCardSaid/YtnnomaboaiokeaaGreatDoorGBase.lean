import Derived.WalkKit
import Derived.WalkSpells
import Derived.WalkLawsBesides
import Derived.OpenShut
import Derived.Maps.AppendAt
import Derived.Deep.RegionWith
import Derived.Deep.RegionLaw
import Derived.Deep.AppendLies
import Derived.Lib.AppendStr
set_option linter.all false
namespace Go.Proofs.YtnnomaboaiokeaaGreatDoor
theorem rI {p:Prop} (h:p):p:=h
abbrev dY:=@List.length_cons
abbrev eO:=@List.length_nil
abbrev gJ:=@List.nil_append
abbrev gU:=@List.map_cons
abbrev hY:=@List.getElem?_map
abbrev hM:=@List.length_map
abbrev iF:=@List.drop_zero
abbrev iH:=@List.append_nil
abbrev iJ:=@List.cons_append
abbrev iL:=@List.not_mem_nil
abbrev iN:=@Option.bind_some
abbrev iM:=@Option.map_some
abbrev iU:=@List.map_nil
abbrev iX:=@List.drop_succ_cons
abbrev iW:=@List.getElem?_cons_succ
abbrev iZ:=@List.toList_toArray
abbrev iY:=@List.getElem?_cons_zero
abbrev jF:=@List.take_succ_cons
abbrev jE:=@List.set_cons_zero
abbrev jC:=@List.set_cons_succ
abbrev jB:=@Bool.true_and
abbrev jK:=@Bool.and_true
abbrev jJ:=@List.forall_mem_cons
abbrev jI:=@List.take_zero
abbrev jQ:=@Bool.not_true
abbrev jP:=@Bool.not_false
abbrev jW:=@Option.map_none
abbrev jV:=@Bool.or_true
abbrev jU:=@Bool.true_or
abbrev jT:=@Nat.zero_ne_one
abbrev jR:=@Nat.one_ne_zero
abbrev mY:=@List.length_append
abbrev rH:=@List.length_set
abbrev tX:=@Nat.le_refl
abbrev uX:=@List.getElem?_eq_getElem
abbrev vQ:=@List.getElem?_eq_some_iff
abbrev vX:=@List.length_singleton
abbrev zC:=@List.mem_append
abbrev zU:=@decide_eq_true
abbrev Ax:=@List.mem_singleton
abbrev AH:=@List.mem_cons
abbrev AG:=@decide_eq_true_eq
abbrev Bn:=@of_decide_eq_true
abbrev Cx:=@List.length_replicate
abbrev CJ:=@Nat.zero_add
abbrev Dv:=@Int.toNat_natCast
abbrev Ef:=@Bool.false_eq_true
abbrev ET:=@List.mem_of_getElem?
abbrev EX:=@Array.getD_eq_getD_getElem?
abbrev GU:=@List.flatten_cons
abbrev GT:=@Nat.add_assoc
abbrev HO:=@Bool.and_eq_true
abbrev HT:=@List.all_eq_true
abbrev HS:=@List.mem_map
abbrev HR:=@List.mem_filter
abbrev Ji:=@Nat.succ_mul
abbrev Jh:=@List.length_take
abbrev Jv:=@List.append_assoc
abbrev Ju:=@List.mem_append_left
abbrev Jt:=@Nat.succ_ne_self
abbrev KH:=@List.isSuffixOf_iff_suffix
abbrev KG:=@List.replicate_succ
abbrev KL:=@Nat.zero_le
abbrev Lm:=@Nat.le_trans
abbrev Ll:=@List.suffix_refl
abbrev Lk:=@List.cons_ne_self
abbrev MR:=@List.mem_cons_of_mem
abbrev MQ:=@Nat.lt_succ_self
abbrev MP:=@List.mem_append_right
abbrev Nc:=@List.getElem?_append_left
abbrev Nb:=@List.getElem_mem
abbrev Na:=@List.drop_eq_getElem_cons
abbrev MZ:=@List.prefix_append
abbrev OE:=@List.getElem?_append_right
abbrev OD:=@List.mem_range
abbrev OC:=@List.mem_of_mem_take
abbrev OB:=@of_decide_eq_false
abbrev OJ:=@List.getElem?_set_ne
abbrev OI:=@List.getElem?_set
abbrev PQ:=@List.getElem?_set_self
abbrev PP:=@List.length_drop
abbrev QJ:=@Array.length_toList
abbrev QI:=@Bool.or_eq_true
abbrev QH:=@List.map_append
abbrev QG:=@Bool.not_eq_true'
abbrev QF:=@List.replicate_zero
abbrev QE:=@List.prefix_refl
abbrev SD:=@List.ext_getElem?
abbrev SB:=@List.getElem?_eq_none
abbrev SA:=@List.filter_cons
abbrev Sy:=@List.countP_cons
abbrev Sw:=@Array.getElem?_eq_getElem
abbrev Sv:=@Int.le_refl
abbrev SY:=@Nat.lt_of_lt_of_le
abbrev SX:=@List.getElem?_mapIdx
abbrev SV:=@List.mem_or_eq_of_mem_set
abbrev SU:=@List.getElem?_toArray
abbrev ST:=@List.map_congr_left
abbrev SS:=@List.append_of_mem
abbrev SR:=@List.filter_append
abbrev SQ:=@Nat.mul_one
abbrev SP:=@List.mem_of_mem_drop
abbrev SO:=@List.drop_eq_nil_of_le
abbrev xdz:=@Nat.add_mul
abbrev xea:=@Nat.mul_le_mul_right
abbrev xeb:=@List.contains_iff_mem
abbrev xec:=@List.filter_congr
abbrev xed:=@List.map_map
abbrev xee:=@List.getElem?_take
abbrev xef:=@Nat.lt_or_ge
abbrev xeg:=@List.mem_replicate
abbrev xeh:=@List.getElem?_drop
abbrev xei:=@Nat.min_eq_left
abbrev xej:=@Int.eq_ofNat_of_zero_le
abbrev xek:=@decide_eq_false
abbrev xel:=@Sum.elim_inr
abbrev xem:=@List.mem_cons_self
abbrev xen:=@Nat.add_zero
abbrev xeo:=@Option.getD_some
abbrev xep:=@List.head?_drop
abbrev xeq:=@List.take_of_length_le
abbrev xer:=@Sum.elim_inl
abbrev xes:=@Bool.or_eq_false_iff
abbrev xet:=@Array.getElem?_replicate
abbrev xeu:=@List.mem_map_of_mem
abbrev xev:=@List.size_toArray
abbrev xew:=@List.any_eq_true
abbrev xex:=@List.take_length
abbrev xey:=@Array.getElem?_toList
abbrev xez:=@List.drop_of_length_le
abbrev xfa:=@Array.toList_setIfInBounds
abbrev xfb:=@Array.getElem?_setIfInBounds_ne
abbrev xfc:=@List.countP_le_length
abbrev xfd:=@Int.tmod_eq_emod_of_nonneg
abbrev xfe:=@List.take_append_drop
abbrev xff:=@List.getElem?_take_of_lt
abbrev xfg:=@List.eq_nil_iff_forall_not_mem
abbrev xfh:=@Array.getElem?_setIfInBounds_self_of_lt
abbrev xfi:=@Array.mapM_eq_mapM_toList
abbrev xfj:=@Int.fdiv_eq_ediv_of_nonneg
open Go.RowKit
theorem eP {p:Prop} (h:p):Hid p:=h
def AF (w:World) (g:Nat) (t:TypeId) (cs:Array Value):Prop:=w.heap[g]? = some (.cells cs t (0,0))
section
variable {w w':World} {g:Nat} {t:TypeId} {cs:Array Value}
theorem AF.lt (h:AF w g t cs):g<w.heap.size:=by
 rcases xef g w.heap.size with hlt | hge
 ·exact hlt
 ·unfold AF at h;rw [Array.getElem?_eq_none hge] at h;cases h
theorem AF.cell (h:AF w g t cs) (i:Nat):w.cell? ⟨g,i,none⟩=cs[i]? := by unfold AF at h;simp [World.cell?,h]
theorem AF.frozen (h:AF w g t cs) (i:Nat):w.frozen? ⟨g,i,none⟩=false:=by unfold AF at h;simp [World.frozen?,h]
theorem AF.new (w:World) (t:TypeId) (cs:Array Value):AF (w.alloc (.cells cs t)) w.heap.size t cs:=heap_alloc_new w _
theorem AF.drew (h:AF w g t cs):AF w.drew g t cs:=h
theorem AF.alloc (h:AF w g t cs) (o:Obj):AF (w.alloc o) g t cs:=(Below.heap_alloc w o g h.lt).trans h
theorem AF.set_ (h:AF w g t cs) (i:Nat) (u:Value):AF (w.setCell ⟨g,i,none⟩ u) g t (cs.setIfInBounds i u):=by
 unfold AF at h ⊢;simp [World.setCell,Array.getElem?_modify,h]
theorem AF.grown {row:Option Nat} (h:AF w g t cs) (hb:w.grownBy w' row) (hg:some g ≠ row):AF w' g t cs:=(hb.block g h.lt hg).trans h
end
theorem Gv (w:World) (r:Option Nat):w.grownBy w r:=⟨rfl,rfl,rfl,tX _,λ_ _ _=>rfl⟩
theorem Uz {a w:World} {r:Option Nat} (h:a.grownBy w r):a.grownBy w.drew r:=⟨h.os,h.tape,h.output,h.size,h.block⟩
theorem Ii {a w:World} {r:Option Nat} (h:a.grownBy w r) (o:Obj):a.grownBy (w.alloc o) r:=
 ⟨h.os,h.tape,h.output,Lm h.size (by simp),λi hi hne=>(Below.heap_alloc w o i (SY hi h.size)).trans (h.block i hi hne)⟩
theorem gset {a w:World} {r:Option Nat} (h:a.grownBy w r) (g i:Nat) (u:Value) (hg:some g=r ∨ a.heap.size<=g):a.grownBy (w.setCell ⟨g,i,none⟩ u) r:=
 ⟨h.os,h.tape,h.output,by simpa [World.setCell] using h.size,λk hk hne=>(Below.heap_setCell w ⟨g,i,none⟩ u k (by
  intro e;have e':k=g:=e;subst e'
  rcases hg with hg | hg
  ·exact hne hg
  ·omega)).trans (h.block k hk hne)⟩
abbrev GG:=Nat->Nat->Option Value
def FQ (w:World) (G:GG):Prop:=∀b o v,G b o=some v->w.cell? ⟨b,o,none⟩=some v
def IL (G:GG) (b:Nat):Prop:=∀o,G b o=none
structure oM (B:Nat) (G G':GG):Prop where
 le:∀b o v,G b o=some v->G' b o=some v
 same:∀b,b<B->∀o,G' b o=G b o
theorem oM.refl (B:Nat) (G:GG):oM B G G:=⟨λ_ _ _ h=>h,λ_ _ _=>rfl⟩
theorem oM.trans {B B':Nat} {G G1 G2:GG} (h:oM B G G1) (k:oM B' G1 G2) (hB:B<=B'):oM B G G2:=
 ⟨λb o v hv=>k.le b o v (h.le b o v hv),λb hb o=>(k.same b (SY hb hB) o).trans (h.same b hb o)⟩
theorem FQ.grown {w w':World} {G:GG} {row:Option Nat} (h:FQ w G) (hg:w.grownBy w' row) (hn:∀r,row=some r->IL G r):FQ w' G:=by
 intro b o v hv;refine hg.cell (h b o v hv) ?_;intro e;have:=hn b e.symm o;rw [this] at hv;cases hv
theorem FQ.lt {w:World} {G:GG} (h:FQ w G) {b o:Nat} {v:Value} (hv:G b o=some v):b<w.heap.size:=World.block_lt_of_cell? w ⟨b,o,none⟩ (h b o v hv)
theorem FQ.out {w:World} {G:GG} (h:FQ w G) {b:Nat} (hb:w.heap.size<=b):IL G b:=by
 intro o;cases hv:G b o with
 | none=>rfl
 | some v=>have:=h.lt hv;omega
theorem NG {G:GG} {rb:Nat} (hn:IL G rb):∀r,some rb=some r->IL G r:=by
 intro r hr
 injection hr with hr
 subst hr;exact hn
theorem Ly {G:GG}:∀r,(none:Option Nat)=some r->IL G r:=by
 intro r hr;cases hr
theorem FQ.alloc {w:World} {G:GG} (h:FQ w G) (o:Obj):FQ (w.alloc o) G:=h.grown (Ii (Gv w none) o) Ly
theorem FQ.drew {w:World} {G:GG} (h:FQ w G):FQ w.drew G:=h
theorem FQ.drewN {w:World} {G:GG} (h:FQ w G) (n:Nat):FQ (w.drewN n) G:=h
def Ke (G:GG) (b:Nat) (cs:List Value):GG:=λb' o=>if b'=b then cs[o]? else G b' o
theorem lay_ext {G:GG} {b B:Nat} {cs:List Value} (ho:IL G b) (hB:B<=b):oM B G (Ke G b cs):=by
 refine ⟨λb' o v hv=>?_,λb' hb o=>?_⟩
 ·unfold Ke
  split
  ·rename_i e;subst e;rw [ho o] at hv;cases hv
  ·exact hv
 ·unfold Ke;rw [if_neg (by omega)]
theorem Kc {G:GG} {b:Nat} {cs:List Value} (i:Nat):Ke G b cs b i=cs[i]? := by simp [Ke]
theorem lay_out {G:GG} {b b':Nat} {cs:List Value} (ho:IL G b') (hne:b' ≠ b):IL (Ke G b cs) b':=by
 intro o;unfold Ke;rw [if_neg hne];exact ho o
theorem lay_com {w:World} {G:GG} {b:Nat} {cs:List Value} (h:FQ w G) (hc:∀i u,cs[i]? = some u->w.cell? ⟨b,i,none⟩=some u):FQ w (Ke G b cs):=by
 intro b' o v hv;unfold Ke at hv
 split at hv
 ·rename_i e;subst e;exact hc o v hv
 ·exact h _ _ _ hv
inductive PN where
 | int (k:IntKind) (n:Int)
 | bool (b:Bool)
 | str (s:ByteArray)
 | node (fs:List PN)
 | list (es:List PN)
inductive AE (G:GG):List PN->List Value->Prop where
 | nil:AE G [] []
 | int {k n ds cs}:(Lit.int k n).wf=true->AE G ds cs->AE G (.int k n::ds) (.int k n::cs)
 | bool {b ds cs}:AE G ds cs->AE G (.bool b::ds) (.bool b::cs)
 | str {s ds cs}:AE G ds cs->AE G (.str s::ds) (.string s::cs)
 | node {fs ds cs1 cs}:AE G fs cs1->AE G ds cs->AE G (.node fs::ds) (cs1++cs)
 | list {es ds cs1 cs a cap}:AE G es cs1->es.length<=cap->cap<=maxLen->(0<es.length->∃b off,a=some ⟨b,off,none⟩/\∀i u,cs1[i]? = some u->G b (off+i)=some u)->AE G ds cs ->
    AE G (.list es::ds) (.slice a es.length cap::cs)
theorem AE.mono {G G':GG} (hle:∀b o v,G b o=some v->G' b o=some v) {ds:List PN} {cs:List Value} (h:AE G ds cs):AE G' ds cs:=by
 induction h with
 | nil=>exact .nil
 | int hw _ ih=>exact .int hw ih
 | bool _ ih=>exact .bool ih
 | str _ ih=>exact .str ih
 | node _ _ ih1 ih2=>exact .node ih1 ih2
 | list _ hc hm ha _ ih1 ih2=>
   refine .list ih1 hc hm (λhl=>?_) ih2;obtain ⟨b,off,e,h⟩:=ha hl;exact ⟨b,off,e,λi u hu=>hle _ _ _ (h i u hu)⟩
def EN (G:GG) (es:List PN) (a:Option Addr) (len cap:Nat):Prop:=
 len=es.length/\len<=cap/\cap<=maxLen/\∃cs,AE G es cs/\(0<len->∃b off,a=some ⟨b,off,none⟩/\∀i u,cs[i]? = some u->G b (off+i)=some u)
theorem AE.inv_nil {G:GG} {cs:List Value} (h:AE G [] cs):cs=[]:=by cases h;rfl
theorem AE.inv_int {G:GG} {k n ds cs} (h:AE G (.int k n::ds) cs):∃xs,cs=.int k n::xs/\(Lit.int k n).wf=true/\AE G ds xs:=by cases h with | int hw h=>exact ⟨_,rfl,hw,h⟩
inductive Oq:PN->Nat->Prop where
 | int {k n}:Oq (.int k n) 1
 | bool {b}:Oq (.bool b) 1
 | str {s}:Oq (.str s) 1
 | list {es}:Oq (.list es) 1
 | node0:Oq (.node []) 0
 | node {f fs m n}:Oq f m->Oq (.node fs) n->Oq (.node (f::fs)) (m+n)
structure St (G0:GG) (w0:World) (r:Option Nat) (G:GG) (w:World):Prop where
 ext:oM w0.heap.size G0 G
 com:FQ w G
 gr:w0.grownBy w r
 out:∀g,r=some g->IL G g/\g<w0.heap.size
structure Ob (B:Nat) (G:GG) (w:World) (b:Nat) (t:TypeId) (cs:Array Value):Prop where
 new:B<=b
 blk:AF w b t cs
 out:IL G b
section
variable {B:Nat} {G G':GG} {w w':World} {b:Nat} {t:TypeId} {cs:Array Value}
end
structure Row (B:Nat) (G:GG) (w:World) (e:TypeId) (size:Nat) (v:Value) (es:List PN):Prop where
 ex:∃cs,w.ownsRow B e size v es.length cs/\AE G es cs
 out:∀g,v.ownBlock=some g->IL G g
section
variable {B:Nat} {G G':GG} {w w':World} {e:TypeId} {size:Nat} {v:Value} {es:List PN}
end
def Src (w:World) (x:Value) (m:Nat) (news:List Value):Prop:=∃A c,x=.slice A m c/\(0<m->∃ad:Addr,A=some ad/\∀j u,news[j]? = some u->w.cell? (ad.add j)=some u)
theorem mS (b o j:Nat):(⟨b,o,none⟩:Addr).add j=⟨b,o+j,none⟩:=by unfold Addr.add;split <;> simp_all
section
variable {P:Program} (w:World)
end
open Go.Lib in
section
variable {P:Program}
end
structure Two (G0:GG) (w0:World) (rb tb sb T:Nat) (z:Array Value) (G:GG) (w:World) (cs:Array Value):Prop where
 st:St G0 w0 (some rb) G w
 t:Ob w0.heap.size G w tb T cs
 o:Ob w0.heap.size G w sb T z
 ne:tb ≠ sb
section
variable {G0:GG} {w0:World} {rb tb sb T:Nat} {z:Array Value} {G G':GG} {w w':World} {cs:Array Value}
end
structure WFr (wb:Nat) (row:Option Nat) (w w':World):Prop where
 os:w'.os=w.os
 tape:w'.tape=w.tape
 output:w'.output=w.output
 size:w.heap.size<=w'.heap.size
 block:∀k,k<w.heap.size->k ≠ wb->some k ≠ row->w'.heap[k]? = w.heap[k]?
section
variable {wb:Nat} {row row1:Option Nat} {w w1 w2 w':World} {G:GG}
end
