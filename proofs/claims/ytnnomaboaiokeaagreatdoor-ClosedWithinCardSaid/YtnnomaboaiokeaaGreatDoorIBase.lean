import Derived.WalkKit
import Derived.WalkSpells
import Derived.WalkLawsBesides
import Derived.OpenShut
import Derived.Maps.AppendAt
import Derived.Deep.RegionWith
import Derived.Deep.RegionLaw
import Derived.Deep.AppendLies
import Derived.Lib.AppendStr
set_option linter.all false
namespace Go.Proofs.YtnnomaboaiokeaaGreatDoor
theorem rI {p:Prop} (h:p):p:=h
abbrev dT:=@List.length_cons
abbrev eI:=@List.length_nil
abbrev gC:=@List.nil_append
abbrev gT:=@List.map_cons
abbrev gS:=@List.append_nil
abbrev gW:=@List.getElem?_map
abbrev gZ:=@List.length_map
abbrev iB:=@List.drop_zero
abbrev iD:=@List.cons_append
abbrev iH:=@List.not_mem_nil
abbrev iI:=@Option.map_some
abbrev iJ:=@Option.bind_some
abbrev iQ:=@List.map_nil
abbrev iT:=@List.drop_succ_cons
abbrev iS:=@List.getElem?_cons_succ
abbrev iV:=@List.toList_toArray
abbrev iU:=@List.getElem?_cons_zero
abbrev jB:=@List.take_succ_cons
abbrev jA:=@List.set_cons_zero
abbrev iZ:=@List.set_cons_succ
abbrev jH:=@List.forall_mem_cons
abbrev jG:=@List.take_zero
abbrev jF:=@Bool.true_and
abbrev jO:=@Bool.and_true
abbrev jN:=@Bool.not_true
abbrev jM:=@Bool.not_false
abbrev jU:=@Option.map_none
abbrev jT:=@Bool.or_true
abbrev jR:=@Bool.true_or
abbrev jQ:=@Nat.zero_ne_one
abbrev jP:=@Nat.one_ne_zero
abbrev mB:=@List.length_append
abbrev rJ:=@List.length_set
abbrev rM:=@Nat.le_refl
abbrev uG:=@List.getElem?_eq_some_iff
abbrev uF:=@List.length_singleton
abbrev uS:=@List.getElem?_eq_getElem
abbrev zH:=@List.mem_append
abbrev zG:=@List.mem_singleton
abbrev AB:=@decide_eq_true
abbrev AE:=@List.mem_cons
abbrev AD:=@of_decide_eq_true
abbrev Bq:=@decide_eq_true_eq
abbrev BX:=@List.length_replicate
abbrev CU:=@Nat.zero_add
abbrev CT:=@List.mem_of_getElem?
abbrev CS:=@Int.toNat_natCast
abbrev EY:=@Bool.false_eq_true
abbrev Fc:=@Array.getD_eq_getD_getElem?
abbrev Gu:=@List.mem_filter
abbrev GY:=@List.flatten_cons
abbrev GX:=@List.append_assoc
abbrev GW:=@Nat.add_assoc
abbrev HO:=@Bool.and_eq_true
abbrev HN:=@List.mem_map
abbrev Iu:=@List.all_eq_true
abbrev Jk:=@Nat.succ_mul
abbrev Jj:=@Nat.le_trans
abbrev Ji:=@List.length_take
abbrev Jw:=@List.mem_append_left
abbrev Jv:=@Nat.succ_ne_self
abbrev KI:=@List.isSuffixOf_iff_suffix
abbrev KH:=@Nat.zero_le
abbrev KG:=@List.replicate_succ
abbrev KO:=@List.mem_range
abbrev Lo:=@List.suffix_refl
abbrev Ln:=@List.getElem_mem
abbrev Lm:=@List.cons_ne_self
abbrev Ma:=@List.getElem?_append_right
abbrev LZ:=@List.mem_cons_of_mem
abbrev LY:=@of_decide_eq_false
abbrev LX:=@List.prefix_append
abbrev MW:=@List.getElem?_append_left
abbrev MV:=@List.map_append
abbrev MU:=@Nat.lt_succ_self
abbrev MT:=@List.drop_eq_getElem_cons
abbrev MS:=@List.mem_append_right
abbrev OC:=@List.mem_of_mem_take
abbrev OL:=@List.getElem?_set_ne
abbrev OK:=@List.getElem?_set
abbrev OJ:=@List.getElem?_eq_none
abbrev OI:=@List.length_drop
abbrev PT:=@List.getElem?_set_self
abbrev QP:=@Array.length_toList
abbrev QO:=@Bool.or_eq_true
abbrev QN:=@List.map_congr_left
abbrev QM:=@Bool.not_eq_true'
abbrev QL:=@List.replicate_zero
abbrev QK:=@List.prefix_refl
abbrev SG:=@List.ext_getElem?
abbrev SF:=@List.filter_cons
abbrev SE:=@List.filter_append
abbrev SD:=@List.filter_congr
abbrev SB:=@List.countP_cons
abbrev SA:=@Array.getElem?_eq_getElem
abbrev Sy:=@Int.le_refl
abbrev Sw:=@List.drop_eq_nil_of_le
abbrev SZ:=@Nat.lt_of_lt_of_le
abbrev SY:=@List.getElem?_mapIdx
abbrev SX:=@List.mem_or_eq_of_mem_set
abbrev SV:=@Nat.add_zero
abbrev SU:=@List.append_of_mem
abbrev ST:=@Nat.mul_one
abbrev SS:=@List.mem_of_mem_drop
abbrev xea:=@List.getElem?_toArray
abbrev xeb:=@Nat.add_mul
abbrev xec:=@Nat.mul_le_mul_right
abbrev xed:=@List.contains_iff_mem
abbrev xee:=@List.map_map
abbrev xef:=@List.getElem?_drop
abbrev xeg:=@List.getElem?_take
abbrev xeh:=@Nat.lt_or_ge
abbrev xei:=@List.mem_replicate
abbrev xej:=@Nat.le_succ
abbrev xek:=@List.mem_cons_self
abbrev xel:=@Option.getD_some
abbrev xem:=@Nat.min_eq_left
abbrev xen:=@Int.eq_ofNat_of_zero_le
abbrev xeo:=@decide_eq_false
abbrev xep:=@Sum.elim_inr
abbrev xeq:=@List.head?_drop
abbrev xer:=@List.take_of_length_le
abbrev xes:=@Nat.sub_self
abbrev xet:=@Sum.elim_inl
abbrev xeu:=@Bool.or_eq_false_iff
abbrev xev:=@Array.getElem?_replicate
abbrev xew:=@List.size_toArray
abbrev xex:=@List.any_eq_true
abbrev xey:=@List.take_length
abbrev xez:=@List.singleton_append
abbrev xfa:=@Array.getElem?_toList
abbrev xfb:=@List.drop_of_length_le
abbrev xfc:=@Array.toList_setIfInBounds
abbrev xfd:=@Array.getElem?_setIfInBounds_ne
abbrev xfe:=@List.mem_map_of_mem
abbrev xff:=@List.countP_le_length
abbrev xfg:=@List.getElem?_range
abbrev xfh:=@List.getElem?_of_mem
abbrev xfi:=@List.take_append_drop
abbrev xfj:=@List.getElem?_take_of_lt
abbrev xfk:=@List.eq_nil_iff_forall_not_mem
abbrev xfl:=@Array.getElem?_setIfInBounds_self_of_lt
abbrev xfm:=@Array.mapM_eq_mapM_toList
abbrev xfn:=@Int.fdiv_eq_ediv_of_nonneg
abbrev xfo:=@Int.tmod_eq_emod_of_nonneg
open Go.RowKit
theorem eL {p:Prop} (h:p):Hid p:=h
def AL (w:World) (g:Nat) (t:TypeId) (cs:Array Value):Prop:=w.heap[g]? = some (.cells cs t (0,0))
section
variable {w w':World} {g:Nat} {t:TypeId} {cs:Array Value}
theorem AL.lt (h:AL w g t cs):g<w.heap.size:=by
 rcases xeh g w.heap.size with hlt | hge
 ·exact hlt
 ·unfold AL at h;rw [Array.getElem?_eq_none hge] at h;cases h
theorem AL.cell (h:AL w g t cs) (i:Nat):w.cell? ⟨g,i,none⟩=cs[i]? := by unfold AL at h;simp [World.cell?,h]
theorem AL.frozen (h:AL w g t cs) (i:Nat):w.frozen? ⟨g,i,none⟩=false:=by unfold AL at h;simp [World.frozen?,h]
theorem AL.new (w:World) (t:TypeId) (cs:Array Value):AL (w.alloc (.cells cs t)) w.heap.size t cs:=heap_alloc_new w _
theorem AL.drew (h:AL w g t cs):AL w.drew g t cs:=h
theorem AL.alloc (h:AL w g t cs) (o:Obj):AL (w.alloc o) g t cs:=(Below.heap_alloc w o g h.lt).trans h
theorem AL.set_ (h:AL w g t cs) (i:Nat) (u:Value):AL (w.setCell ⟨g,i,none⟩ u) g t (cs.setIfInBounds i u):=by
 unfold AL at h ⊢;simp [World.setCell,Array.getElem?_modify,h]
theorem AL.grown {row:Option Nat} (h:AL w g t cs) (hb:w.grownBy w' row) (hg:some g ≠ row):AL w' g t cs:=(hb.block g h.lt hg).trans h
end
theorem Gz (w:World) (r:Option Nat):w.grownBy w r:=⟨rfl,rfl,rfl,rM _,λ_ _ _=>rfl⟩
theorem UE {a w:World} {r:Option Nat} (h:a.grownBy w r):a.grownBy w.drew r:=⟨h.os,h.tape,h.output,h.size,h.block⟩
theorem If {a w:World} {r:Option Nat} (h:a.grownBy w r) (o:Obj):a.grownBy (w.alloc o) r:=
 ⟨h.os,h.tape,h.output,Jj h.size (by simp),λi hi hne=>(Below.heap_alloc w o i (SZ hi h.size)).trans (h.block i hi hne)⟩
theorem gset {a w:World} {r:Option Nat} (h:a.grownBy w r) (g i:Nat) (u:Value) (hg:some g=r ∨ a.heap.size<=g):a.grownBy (w.setCell ⟨g,i,none⟩ u) r:=
 ⟨h.os,h.tape,h.output,by simpa [World.setCell] using h.size,λk hk hne=>(Below.heap_setCell w ⟨g,i,none⟩ u k (by
  intro e;have e':k=g:=e;subst e'
  rcases hg with hg | hg
  ·exact hne hg
  ·omega)).trans (h.block k hk hne)⟩
abbrev GG:=Nat->Nat->Option Value
def FX (w:World) (G:GG):Prop:=∀b o v,G b o=some v->w.cell? ⟨b,o,none⟩=some v
def IM (G:GG) (b:Nat):Prop:=∀o,G b o=none
structure oP (B:Nat) (G G':GG):Prop where
 le:∀b o v,G b o=some v->G' b o=some v
 same:∀b,b<B->∀o,G' b o=G b o
theorem oP.refl (B:Nat) (G:GG):oP B G G:=⟨λ_ _ _ h=>h,λ_ _ _=>rfl⟩
theorem oP.trans {B B':Nat} {G G1 G2:GG} (h:oP B G G1) (k:oP B' G1 G2) (hB:B<=B'):oP B G G2:=
 ⟨λb o v hv=>k.le b o v (h.le b o v hv),λb hb o=>(k.same b (SZ hb hB) o).trans (h.same b hb o)⟩
theorem FX.grown {w w':World} {G:GG} {row:Option Nat} (h:FX w G) (hg:w.grownBy w' row) (hn:∀r,row=some r->IM G r):FX w' G:=by
 intro b o v hv;refine hg.cell (h b o v hv) ?_;intro e;have:=hn b e.symm o;rw [this] at hv;cases hv
theorem FX.lt {w:World} {G:GG} (h:FX w G) {b o:Nat} {v:Value} (hv:G b o=some v):b<w.heap.size:=World.block_lt_of_cell? w ⟨b,o,none⟩ (h b o v hv)
theorem FX.out {w:World} {G:GG} (h:FX w G) {b:Nat} (hb:w.heap.size<=b):IM G b:=by
 intro o;cases hv:G b o with
 | none=>rfl
 | some v=>have:=h.lt hv;omega
theorem NJ {G:GG} {rb:Nat} (hn:IM G rb):∀r,some rb=some r->IM G r:=by
 intro r hr
 injection hr with hr
 subst hr;exact hn
theorem LB {G:GG}:∀r,(none:Option Nat)=some r->IM G r:=by
 intro r hr;cases hr
theorem FX.alloc {w:World} {G:GG} (h:FX w G) (o:Obj):FX (w.alloc o) G:=h.grown (If (Gz w none) o) LB
theorem FX.drew {w:World} {G:GG} (h:FX w G):FX w.drew G:=h
theorem FX.drewN {w:World} {G:GG} (h:FX w G) (n:Nat):FX (w.drewN n) G:=h
def Kf (G:GG) (b:Nat) (cs:List Value):GG:=λb' o=>if b'=b then cs[o]? else G b' o
theorem lay_ext {G:GG} {b B:Nat} {cs:List Value} (ho:IM G b) (hB:B<=b):oP B G (Kf G b cs):=by
 refine ⟨λb' o v hv=>?_,λb' hb o=>?_⟩
 ·unfold Kf
  split
  ·rename_i e;subst e;rw [ho o] at hv;cases hv
  ·exact hv
 ·unfold Kf;rw [if_neg (by omega)]
theorem Ke {G:GG} {b:Nat} {cs:List Value} (i:Nat):Kf G b cs b i=cs[i]? := by simp [Kf]
theorem lay_out {G:GG} {b b':Nat} {cs:List Value} (ho:IM G b') (hne:b' ≠ b):IM (Kf G b cs) b':=by
 intro o;unfold Kf;rw [if_neg hne];exact ho o
theorem lay_com {w:World} {G:GG} {b:Nat} {cs:List Value} (h:FX w G) (hc:∀i u,cs[i]? = some u->w.cell? ⟨b,i,none⟩=some u):FX w (Kf G b cs):=by
 intro b' o v hv;unfold Kf at hv
 split at hv
 ·rename_i e;subst e;exact hc o v hv
 ·exact h _ _ _ hv
inductive OH where
 | int (k:IntKind) (n:Int)
 | bool (b:Bool)
 | str (s:ByteArray)
 | node (fs:List OH)
 | list (es:List OH)
inductive AK (G:GG):List OH->List Value->Prop where
 | nil:AK G [] []
 | int {k n ds cs}:(Lit.int k n).wf=true->AK G ds cs->AK G (.int k n::ds) (.int k n::cs)
 | bool {b ds cs}:AK G ds cs->AK G (.bool b::ds) (.bool b::cs)
 | str {s ds cs}:AK G ds cs->AK G (.str s::ds) (.string s::cs)
 | node {fs ds cs1 cs}:AK G fs cs1->AK G ds cs->AK G (.node fs::ds) (cs1++cs)
 | list {es ds cs1 cs a cap}:AK G es cs1->es.length<=cap->cap<=maxLen->(0<es.length->∃b off,a=some ⟨b,off,none⟩/\∀i u,cs1[i]? = some u->G b (off+i)=some u)->AK G ds cs ->
    AK G (.list es::ds) (.slice a es.length cap::cs)
theorem AK.mono {G G':GG} (hle:∀b o v,G b o=some v->G' b o=some v) {ds:List OH} {cs:List Value} (h:AK G ds cs):AK G' ds cs:=by
 induction h with
 | nil=>exact .nil
 | int hw _ ih=>exact .int hw ih
 | bool _ ih=>exact .bool ih
 | str _ ih=>exact .str ih
 | node _ _ ih1 ih2=>exact .node ih1 ih2
 | list _ hc hm ha _ ih1 ih2=>
   refine .list ih1 hc hm (λhl=>?_) ih2;obtain ⟨b,off,e,h⟩:=ha hl;exact ⟨b,off,e,λi u hu=>hle _ _ _ (h i u hu)⟩
def CH (G:GG) (es:List OH) (a:Option Addr) (len cap:Nat):Prop:=
 len=es.length/\len<=cap/\cap<=maxLen/\∃cs,AK G es cs/\(0<len->∃b off,a=some ⟨b,off,none⟩/\∀i u,cs[i]? = some u->G b (off+i)=some u)
theorem AK.inv_nil {G:GG} {cs:List Value} (h:AK G [] cs):cs=[]:=by cases h;rfl
theorem AK.inv_int {G:GG} {k n ds cs} (h:AK G (.int k n::ds) cs):∃xs,cs=.int k n::xs/\(Lit.int k n).wf=true/\AK G ds xs:=by cases h with | int hw h=>exact ⟨_,rfl,hw,h⟩
inductive Or:OH->Nat->Prop where
 | int {k n}:Or (.int k n) 1
 | bool {b}:Or (.bool b) 1
 | str {s}:Or (.str s) 1
 | list {es}:Or (.list es) 1
 | node0:Or (.node []) 0
 | node {f fs m n}:Or f m->Or (.node fs) n->Or (.node (f::fs)) (m+n)
structure St (G0:GG) (w0:World) (r:Option Nat) (G:GG) (w:World):Prop where
 ext:oP w0.heap.size G0 G
 com:FX w G
 gr:w0.grownBy w r
 out:∀g,r=some g->IM G g/\g<w0.heap.size
structure Ob (B:Nat) (G:GG) (w:World) (b:Nat) (t:TypeId) (cs:Array Value):Prop where
 new:B<=b
 blk:AL w b t cs
 out:IM G b
section
variable {B:Nat} {G G':GG} {w w':World} {b:Nat} {t:TypeId} {cs:Array Value}
end
structure Row (B:Nat) (G:GG) (w:World) (e:TypeId) (size:Nat) (v:Value) (es:List OH):Prop where
 ex:∃cs,w.ownsRow B e size v es.length cs/\AK G es cs
 out:∀g,v.ownBlock=some g->IM G g
section
variable {B:Nat} {G G':GG} {w w':World} {e:TypeId} {size:Nat} {v:Value} {es:List OH}
end
def Src (w:World) (x:Value) (m:Nat) (news:List Value):Prop:=∃A c,x=.slice A m c/\(0<m->∃ad:Addr,A=some ad/\∀j u,news[j]? = some u->w.cell? (ad.add j)=some u)
theorem mV (b o j:Nat):(⟨b,o,none⟩:Addr).add j=⟨b,o+j,none⟩:=by unfold Addr.add;split <;> simp_all
section
variable {P:Program} (w:World)
end
open Go.Lib in
section
variable {P:Program}
end
structure Two (G0:GG) (w0:World) (rb tb sb T:Nat) (z:Array Value) (G:GG) (w:World) (cs:Array Value):Prop where
 st:St G0 w0 (some rb) G w
 t:Ob w0.heap.size G w tb T cs
 o:Ob w0.heap.size G w sb T z
 ne:tb ≠ sb
section
variable {G0:GG} {w0:World} {rb tb sb T:Nat} {z:Array Value} {G G':GG} {w w':World} {cs:Array Value}
end
structure WFr (wb:Nat) (row:Option Nat) (w w':World):Prop where
 os:w'.os=w.os
 tape:w'.tape=w.tape
 output:w'.output=w.output
 size:w.heap.size<=w'.heap.size
 block:∀k,k<w.heap.size->k ≠ wb->some k ≠ row->w'.heap[k]? = w.heap[k]?
section
variable {wb:Nat} {row row1:Option Nat} {w w1 w2 w':World} {G:GG}
end
