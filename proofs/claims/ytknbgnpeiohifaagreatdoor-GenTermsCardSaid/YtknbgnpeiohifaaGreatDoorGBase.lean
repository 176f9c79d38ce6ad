import Derived.KernelRfl
import Derived.WalkKit
import Derived.WalkSpells
import Derived.WalkLawsBesides
import Derived.OpenShut
import Derived.Maps.AppendAt
import Derived.Deep.RegionWith
import Derived.Deep.RegionLaw
import Derived.Deep.AppendLies
import Derived.Lib.AppendStr
set_option linter.all false
namespace Go.Proofs.YtknbgnpeiohifaaGreatDoor
theorem zb {p:Prop} (h:p:=by omega):p:=h
theorem zc {p:Prop} (h:p:=by decide):p:=h
theorem zd {p:Prop} (h:p:=by simp):p:=h
theorem ze {p:Prop} (h:p:=by kernel_rfl):p:=h
theorem rI {p:Prop} (h:p):p:=h
abbrev cE:=@if_neg
abbrev cM:=@absurd
abbrev cX:=@if_pos
abbrev iX:=@Option.bind_some
abbrev oY:=@List.length_append
abbrev qB:=@List.length_cons
abbrev sY:=@List.length_nil
abbrev uZ:=@Nat.le_refl
abbrev vO:=@List.length_singleton
abbrev xG:=@of_decide_eq_true
abbrev xW:=@List.getElem?_eq_some_iff
abbrev yN:=@List.getElem?_eq_getElem
abbrev yV:=@List.map_cons
abbrev yU:=@List.mem_append
abbrev zU:=@List.mem_singleton
abbrev Ah:=@decide_eq_true
abbrev AE:=@List.nil_append
abbrev Da:=@decide_eq_true_eq
abbrev Db:=@List.length_set
abbrev Di:=@List.mem_cons
abbrev Dh:=@List.map_nil
abbrev DI:=@congrArg
abbrev DH:=@List.drop_zero
abbrev Fu:=@List.append_nil
abbrev GB:=@List.mem_of_getElem?
abbrev GD:=@Int.toNat_natCast
abbrev GC:=@List.mem_append_left
abbrev IU:=@List.mem_append_right
abbrev JR:=@Bool.false_eq_true
abbrev Ko:=@Nat.zero_le
abbrev Kn:=@List.length_map
abbrev KM:=@List.getElem?_map
abbrev Ll:=@List.flatten_cons
abbrev Lk:=@Nat.zero_add
abbrev Lj:=@of_decide_eq_false
abbrev Li:=@Option.some.inj
abbrev Mi:=@List.append_assoc
abbrev Mh:=@List.getElem?_append_right
abbrev No:=@Nat.le_trans
abbrev Nn:=@not_false_eq_true
abbrev Nm:=@List.mem_cons_of_mem
abbrev NM:=@Nat.succ_mul
abbrev NL:=@List.length_take
abbrev NY:=@List.getElem_mem
abbrev Py:=@List.getElem?_append_left
abbrev Px:=@List.isSuffixOf_iff_suffix
abbrev Pw:=@List.set_cons_zero
abbrev PJ:=@Option.map_some
abbrev PH:=@List.mem_cons_self
abbrev Qq:=@List.suffix_refl
abbrev Qp:=@Nat.add_zero
abbrev Qo:=@List.mem_map
abbrev Rj:=@List.all_eq_true
abbrev Ri:=@List.cons_append
abbrev Rh:=@Nat.lt_succ_self
abbrev Rg:=@List.prefix_append
abbrev Su:=@Bool.and_eq_true
abbrev St:=@List.not_mem_nil
abbrev Sr:=@List.drop_succ_cons
abbrev Sq:=@List.drop_eq_getElem_cons
abbrev SE:=@List.take_succ_cons
abbrev SD:=@List.set_cons_succ
abbrev SB:=@decide_eq_false
abbrev Ul:=@List.mem_of_mem_take
abbrev Uk:=@List.take_zero
abbrev Uj:=@Int.le_refl
abbrev Uv:=@List.getElem?_set_ne
abbrev Uu:=@List.getElem?_set
abbrev Ut:=@List.mem_filter
abbrev Us:=@List.length_drop
abbrev VI:=@List.getElem?_set_self
abbrev VH:=@List.getElem?_eq_none
abbrev VG:=@Array.length_toList
abbrev VF:=@Array.getD_eq_getD_getElem?
abbrev WR:=@List.drop_eq_nil_of_le
abbrev WQ:=@List.prefix_refl
abbrev Yz:=@List.ext_getElem?
abbrev Yy:=@List.countP_cons
abbrev Yx:=@List.mem_range
abbrev Yw:=@List.mem_of_mem_drop
abbrev YM:=@Nat.lt_of_lt_of_le
abbrev YL:=@List.getElem?_mapIdx
abbrev YK:=@List.mem_or_eq_of_mem_set
abbrev YJ:=@Nat.mul_one
abbrev YI:=@List.map_append
abbrev xdh:=@Nat.add_mul
abbrev xdi:=@Nat.mul_le_mul_right
abbrev xdj:=@List.map_congr_left
abbrev xdk:=@List.getElem?_drop
abbrev xdl:=@List.getElem?_take
abbrev xdm:=@List.replicate_succ
abbrev xdn:=@List.mem_replicate
abbrev xdo:=@Nat.add_sub_cancel_left
abbrev xdp:=@Nat.le_succ
abbrev xdq:=@List.take_of_length_le
abbrev xdr:=@Nat.add_assoc
abbrev xds:=@Nat.min_eq_left
abbrev xdt:=@Int.eq_ofNat_of_zero_le
abbrev xdu:=@List.getElem?_toArray
abbrev xdv:=@Bool.or_eq_true
abbrev xdw:=@Bool.not_eq_true'
abbrev xdx:=@List.head?_drop
abbrev xdy:=@List.getElem?_cons_succ
abbrev xdz:=@Nat.lt_or_ge
abbrev xea:=@Nat.lt_irrefl
abbrev xeb:=@List.length_replicate
abbrev xec:=@Nat.sub_self
abbrev xed:=@Sum.elim_inl
abbrev xee:=@Array.getElem?_toList
abbrev xef:=@List.size_toArray
abbrev xeg:=@List.getElem?_cons_zero
abbrev xeh:=@List.take_length
abbrev xei:=@Array.toList_setIfInBounds
abbrev xej:=@List.getElem?_range
abbrev xek:=@Int.tmod_eq_emod_of_nonneg
abbrev xel:=@Int.tdiv_eq_ediv_of_nonneg
abbrev xem:=@List.getElem?_of_mem
abbrev xen:=@List.singleton_append
abbrev xeo:=@List.take_append_drop
abbrev xep:=@List.getElem?_take_of_lt
abbrev xeq:=@Array.mapM_eq_mapM_toList
abbrev xer:=@Int.fdiv_eq_ediv_of_nonneg
open Go.RowKit
theorem gG {p:Prop} (h:p):Hid p:=h
def CY (w:World) (g:Nat) (t:TypeId) (cs:Array Value):Prop:=w.heap[g]? = some (.cells cs t (0,0))
section
variable {w w':World} {g:Nat} {t:TypeId} {cs:Array Value}
theorem CY.lt (h:CY w g t cs):g<w.heap.size:=by
 rcases xdz g w.heap.size with hlt | hge
 ·exact hlt
 ·unfold CY at h;rw [Array.getElem?_eq_none hge] at h;cases h
theorem CY.cell (h:CY w g t cs) (i:Nat):w.cell? ⟨g,i,none⟩=cs[i]? := by unfold CY at h;simp [World.cell?,h]
theorem CY.frozen (h:CY w g t cs) (i:Nat):w.frozen? ⟨g,i,none⟩=false:=by unfold CY at h;simp [World.frozen?,h]
theorem CY.new (w:World) (t:TypeId) (cs:Array Value):CY (w.alloc (.cells cs t)) w.heap.size t cs:=heap_alloc_new w _
theorem CY.drew (h:CY w g t cs):CY w.drew g t cs:=h
theorem CY.alloc (h:CY w g t cs) (o:Obj):CY (w.alloc o) g t cs:=(Below.heap_alloc w o g h.lt).trans h
theorem CY.set_ (h:CY w g t cs) (i:Nat) (u:Value):CY (w.setCell ⟨g,i,none⟩ u) g t (cs.setIfInBounds i u):=by
 unfold CY at h ⊢;simp [World.setCell,Array.getElem?_modify,h]
theorem CY.grown {row:Option Nat} (h:CY w g t cs) (hb:w.grownBy w' row) (hg:some g ≠ row):CY w' g t cs:=(hb.block g h.lt hg).trans h
end
theorem KH (w:World) (r:Option Nat):w.grownBy w r:=⟨rfl,rfl,rfl,uZ _,λ_ _ _=>rfl⟩
theorem zax {a w:World} {r:Option Nat} (h:a.grownBy w r):a.grownBy w.drew r:=⟨h.os,h.tape,h.output,h.size,h.block⟩
theorem ME {a w:World} {r:Option Nat} (h:a.grownBy w r) (o:Obj):a.grownBy (w.alloc o) r:=
 ⟨h.os,h.tape,h.output,No h.size (by simp),λi hi hne=>(Below.heap_alloc w o i (YM hi h.size)).trans (h.block i hi hne)⟩
theorem gset {a w:World} {r:Option Nat} (h:a.grownBy w r) (g i:Nat) (u:Value) (hg:some g=r ∨ a.heap.size<=g):a.grownBy (w.setCell ⟨g,i,none⟩ u) r:=
 ⟨h.os,h.tape,h.output,by simpa [World.setCell] using h.size,λk hk hne=>(Below.heap_setCell w ⟨g,i,none⟩ u k (by
  intro e;have e':k=g:=e;subst e'
  rcases hg with hg | hg
  ·exact hne hg
  ·omega)).trans (h.block k hk hne)⟩
abbrev GG:=Nat->Nat->Option Value
def Km (w:World) (G:GG):Prop:=∀b o v,G b o=some v->w.cell? ⟨b,o,none⟩=some v
def NI (G:GG) (b:Nat):Prop:=∀o,G b o=none
structure qK (B:Nat) (G G':GG):Prop where
 le:∀b o v,G b o=some v->G' b o=some v
 same:∀b,b<B->∀o,G' b o=G b o
theorem qK.refl (B:Nat) (G:GG):qK B G G:=⟨λ_ _ _ h=>h,λ_ _ _=>rfl⟩
theorem qK.trans {B B':Nat} {G G1 G2:GG} (h:qK B G G1) (k:qK B' G1 G2) (hB:B<=B'):qK B G G2:=
 ⟨λb o v hv=>k.le b o v (h.le b o v hv),λb hb o=>(k.same b (YM hb hB) o).trans (h.same b hb o)⟩
theorem Km.grown {w w':World} {G:GG} {row:Option Nat} (h:Km w G) (hg:w.grownBy w' row) (hn:∀r,row=some r->NI G r):Km w' G:=by
 intro b o v hv;refine hg.cell (h b o v hv) ?_;intro e;have:=hn b e.symm o;rw [this] at hv;cases hv
theorem Km.lt {w:World} {G:GG} (h:Km w G) {b o:Nat} {v:Value} (hv:G b o=some v):b<w.heap.size:=World.block_lt_of_cell? w ⟨b,o,none⟩ (h b o v hv)
theorem Km.out {w:World} {G:GG} (h:Km w G) {b:Nat} (hb:w.heap.size<=b):NI G b:=by
 intro o;cases hv:G b o with
 | none=>rfl
 | some v=>have:=h.lt hv;omega
theorem Tq {G:GG} {rb:Nat} (hn:NI G rb):∀r,some rb=some r->NI G r:=by
 intro r hr
 injection hr with hr
 subst hr;exact hn
theorem QF {G:GG}:∀r,(none:Option Nat)=some r->NI G r:=by
 intro r hr;cases hr
theorem Km.alloc {w:World} {G:GG} (h:Km w G) (o:Obj):Km (w.alloc o) G:=h.grown (ME (KH w none) o) QF
theorem Km.drew {w:World} {G:GG} (h:Km w G):Km w.drew G:=h
theorem Km.drewN {w:World} {G:GG} (h:Km w G) (n:Nat):Km (w.drewN n) G:=h
def OQ (G:GG) (b:Nat) (cs:List Value):GG:=λb' o=>if b'=b then cs[o]? else G b' o
theorem lay_ext {G:GG} {b B:Nat} {cs:List Value} (ho:NI G b) (hB:B<=b):qK B G (OQ G b cs):=by
 refine ⟨λb' o v hv=>?_,λb' hb o=>?_⟩
 ·unfold OQ
  split
  ·rename_i e;subst e;rw [ho o] at hv;cases hv
  ·exact hv
 ·unfold OQ;rw [cE (by omega)]
theorem OP {G:GG} {b:Nat} {cs:List Value} (i:Nat):OQ G b cs b i=cs[i]? := by simp [OQ]
theorem lay_out {G:GG} {b b':Nat} {cs:List Value} (ho:NI G b') (hne:b' ≠ b):NI (OQ G b cs) b':=by
 intro o;unfold OQ;rw [cE hne];exact ho o
theorem lay_com {w:World} {G:GG} {b:Nat} {cs:List Value} (h:Km w G) (hc:∀i u,cs[i]? = some u->w.cell? ⟨b,i,none⟩=some u):Km w (OQ G b cs):=by
 intro b' o v hv;unfold OQ at hv
 split at hv
 ·rename_i e;subst e;exact hc o v hv
 ·exact h _ _ _ hv
inductive Ys where
 | int (k:IntKind) (n:Int)
 | bool (b:Bool)
 | str (s:ByteArray)
 | node (fs:List Ys)
 | list (es:List Ys)
inductive DG (G:GG):List Ys->List Value->Prop where
 | nil:DG G [] []
 | int {k n ds cs}:(Lit.int k n).wf=true->DG G ds cs->DG G (.int k n::ds) (.int k n::cs)
 | bool {b ds cs}:DG G ds cs->DG G (.bool b::ds) (.bool b::cs)
 | str {s ds cs}:DG G ds cs->DG G (.str s::ds) (.string s::cs)
 | node {fs ds cs1 cs}:DG G fs cs1->DG G ds cs->DG G (.node fs::ds) (cs1++cs)
 | list {es ds cs1 cs a cap}:DG G es cs1->es.length<=cap->cap<=maxLen->(0<es.length->∃b off,a=some ⟨b,off,none⟩/\∀i u,cs1[i]? = some u->G b (off+i)=some u)->DG G ds cs ->
    DG G (.list es::ds) (.slice a es.length cap::cs)
theorem DG.mono {G G':GG} (hle:∀b o v,G b o=some v->G' b o=some v) {ds:List Ys} {cs:List Value} (h:DG G ds cs):DG G' ds cs:=by
 induction h with
 | nil=>exact .nil
 | int hw _ ih=>exact .int hw ih
 | bool _ ih=>exact .bool ih
 | str _ ih=>exact .str ih
 | node _ _ ih1 ih2=>exact .node ih1 ih2
 | list _ hc hm ha _ ih1 ih2=>
   refine .list ih1 hc hm (λhl=>?_) ih2;obtain ⟨b,off,e,h⟩:=ha hl;exact ⟨b,off,e,λi u hu=>hle _ _ _ (h i u hu)⟩
def Is (G:GG) (es:List Ys) (a:Option Addr) (len cap:Nat):Prop:=
 len=es.length/\len<=cap/\cap<=maxLen/\∃cs,DG G es cs/\(0<len->∃b off,a=some ⟨b,off,none⟩/\∀i u,cs[i]? = some u->G b (off+i)=some u)
theorem DG.inv_nil {G:GG} {cs:List Value} (h:DG G [] cs):cs=[]:=by cases h;rfl
theorem DG.inv_int {G:GG} {k n ds cs} (h:DG G (.int k n::ds) cs):∃xs,cs=.int k n::xs/\(Lit.int k n).wf=true/\DG G ds xs:=by cases h with | int hw h=>exact ⟨_,rfl,hw,h⟩
section
variable {B:Nat} {G G':GG} {w w':World} {b:Nat} {t:TypeId} {cs:Array Value}
end
section
variable {B:Nat} {G G':GG} {w w':World} {e:TypeId} {size:Nat} {v:Value} {es:List Ys}
end
def Src (w:World) (x:Value) (m:Nat) (news:List Value):Prop:=∃A c,x=.slice A m c/\(0<m->∃ad:Addr,A=some ad/\∀j u,news[j]? = some u->w.cell? (ad.add j)=some u)
theorem oA (b o j:Nat):(⟨b,o,none⟩:Addr).add j=⟨b,o+j,none⟩:=by unfold Addr.add;split <;> simp_all
section
variable {P:Program} (w:World)
end
open Go.Lib in
section
variable {P:Program}
end
section
variable {G0:GG} {w0:World} {rb tb sb T:Nat} {z:Array Value} {G G':GG} {w w':World} {cs:Array Value}
end
section
variable {wb:Nat} {row row1:Option Nat} {w w1 w2 w':World} {G:GG}
end
