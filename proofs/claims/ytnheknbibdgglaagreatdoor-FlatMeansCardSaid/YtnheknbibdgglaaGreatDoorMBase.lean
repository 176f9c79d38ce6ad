import Derived.KernelRfl
import Derived.WalkKit
import Derived.WalkSpells
import Derived.WalkLawsBesides
import Derived.OpenShut
import Derived.Maps.AppendAt
import Derived.Deep.RegionWith
import Derived.Deep.RegionLaw
import Derived.Deep.AppendLies
import Derived.Lib.AppendStr
set_option linter.all false
namespace Go.Proofs.YtnheknbibdgglaaGreatDoor
theorem za {p:Prop} (h:p:=by omega):p:=h
theorem zb {p:Prop} (h:p:=by decide):p:=h
theorem zc {p:Prop} (h:p:=by simp):p:=h
theorem zd {p:Prop} (h:p:=by kernel_rfl):p:=h
theorem rI {p:Prop} (h:p):p:=h
abbrev bU:=@if_neg
abbrev cG:=@if_pos
abbrev dE:=@absurd
abbrev jJ:=@List.length_cons
abbrev jN:=@Option.some.inj
abbrev mO:=@List.length_nil
abbrev nB:=@List.length_append
abbrev nA:=@Option.bind_some
abbrev oC:=@List.map_cons
abbrev qA:=@List.map_nil
abbrev sG:=@List.getElem?_eq_some_iff
abbrev sR:=@List.drop_zero
abbrev tF:=@List.length_singleton
abbrev tS:=@List.getElem?_eq_getElem
abbrev tW:=@Nat.le_refl
abbrev vJ:=@congrArg
abbrev vO:=@decide_eq_true
abbrev wN:=@List.nil_append
abbrev wM:=@List.length_map
abbrev wR:=@Int.toNat_natCast
abbrev yS:=@List.length_set
abbrev zA:=@List.mem_singleton
abbrev zX:=@List.mem_of_getElem?
abbrev AJ:=@List.getElem?_map
abbrev Bt:=@Bool.false_eq_true
abbrev Bu:=@List.drop_succ_cons
abbrev BV:=@List.mem_append
abbrev Cj:=@List.mem_cons
abbrev ED:=@List.getElem?_cons_succ
abbrev EC:=@List.length_take
abbrev EG:=@of_decide_eq_true
abbrev EP:=@List.cons_append
abbrev EO:=@Nat.lt_succ_self
abbrev ES:=@Nat.zero_add
abbrev ER:=@List.append_nil
abbrev FI:=@Option.map_some
abbrev Gq:=@List.take_succ_cons
abbrev Gp:=@List.take_zero
abbrev GD:=@List.set_cons_zero
abbrev GC:=@decide_eq_true_eq
abbrev GT:=@List.getElem?_append_right
abbrev GS:=@List.isSuffixOf_iff_suffix
abbrev GR:=@List.prefix_append
abbrev HH:=@List.getElem?_append_left
abbrev HG:=@List.length_drop
abbrev HJ:=@List.flatten_cons
abbrev HI:=@Nat.zero_le
abbrev Ii:=@List.set_cons_succ
abbrev Ih:=@not_false_eq_true
abbrev Ig:=@List.prefix_refl
abbrev Iw:=@List.mem_map
abbrev Ja:=@List.mem_cons_self
abbrev IZ:=@List.mem_cons_of_mem
abbrev Ki:=@List.getElem?_set_self
abbrev Kk:=@Nat.succ_mul
abbrev KP:=@Nat.le_trans
abbrev KO:=@List.suffix_refl
abbrev KN:=@Bool.and_eq_true
abbrev KM:=@List.mem_or_eq_of_mem_set
abbrev KL:=@List.getElem?_set
abbrev KK:=@List.all_eq_true
abbrev KJ:=@List.getElem?_cons_zero
abbrev MM:=@List.getElem?_set_ne
abbrev ML:=@List.append_assoc
abbrev MK:=@List.mem_of_mem_take
abbrev MJ:=@List.getElem?_take
abbrev MI:=@List.mem_append_left
abbrev MR:=@List.not_mem_nil
abbrev Oq:=@List.getD_eq_getElem?_getD
abbrev Oo:=@List.getElem_mem
abbrev On:=@List.drop_eq_getElem_cons
abbrev Om:=@decide_eq_false
abbrev OA:=@List.ext_getElem?
abbrev Oz:=@Int.le_refl
abbrev Oy:=@List.length_replicate
abbrev PT:=@Array.length_toList
abbrev PS:=@Array.getD_eq_getD_getElem?
abbrev PR:=@List.mem_replicate
abbrev PQ:=@Sum.elim_inr
abbrev PP:=@of_decide_eq_false
abbrev QU:=@List.suffix_cons
abbrev QT:=@List.mem_of_mem_drop
abbrev QS:=@List.getElem?_drop
abbrev SU:=@Nat.add_zero
abbrev ST:=@List.countP_cons
abbrev SS:=@List.mem_filter
abbrev SR:=@Int.natCast_nonneg
abbrev SQ:=@Nat.mul_one
abbrev SP:=@Sum.elim_inl
abbrev Tg:=@Nat.lt_of_lt_of_le
abbrev Tf:=@List.getElem?_mapIdx
abbrev Te:=@List.mem_range
abbrev Td:=@List.head?_drop
abbrev Tc:=@Nat.sub_self
abbrev xdq:=@Nat.add_mul
abbrev xdr:=@List.map_congr_left
abbrev xds:=@List.map_append
abbrev xdt:=@List.getElem?_toArray
abbrev xdu:=@List.getElem?_eq_none
abbrev xdv:=@Nat.mul_le_mul_right
abbrev xdw:=@Nat.zero_ne_one
abbrev xdx:=@List.take_of_length_le
abbrev xdy:=@List.replicate_succ
abbrev xdz:=@List.map_set
abbrev xea:=@List.drop_eq_nil_of_le
abbrev xeb:=@Bool.or_eq_true
abbrev xec:=@Bool.not_eq_true'
abbrev xed:=@List.forall_mem_cons
abbrev xee:=@Nat.add_assoc
abbrev xef:=@Nat.lt_irrefl
abbrev xeg:=@Nat.min_eq_left
abbrev xeh:=@List.mem_append_right
abbrev xei:=@List.size_toArray
abbrev xej:=@Option.map_none
abbrev xek:=@List.take_length
abbrev xel:=@List.getElem?_range
abbrev xem:=@List.map_replicate
abbrev xen:=@Array.toList_setIfInBounds
abbrev xeo:=@List.getElem?_take_of_lt
abbrev xep:=@List.toList_toArray
abbrev xeq:=@Array.getElem?_toList
abbrev xer:=@Array.mapM_eq_mapM_toList
open Go.RowKit
theorem eZ {p:Prop} (h:p):Hid p:=h
def zW (w:World) (g:Nat) (t:TypeId) (cs:Array Value):Prop:=w.heap[g]? = some (.cells cs t (0,0))
section
variable {w w':World} {g:Nat} {t:TypeId} {cs:Array Value}
theorem zW.lt (h:zW w g t cs):g<w.heap.size:=by
 rcases Nat.lt_or_ge g w.heap.size with hlt | hge
 ·exact hlt
 ·unfold zW at h;rw [Array.getElem?_eq_none hge] at h;cases h
theorem zW.cell (h:zW w g t cs) (i:Nat):w.cell? ⟨g,i,none⟩=cs[i]? := by unfold zW at h;simp [World.cell?,h]
theorem zW.frozen (h:zW w g t cs) (i:Nat):w.frozen? ⟨g,i,none⟩=false:=by unfold zW at h;simp [World.frozen?,h]
theorem zW.new (w:World) (t:TypeId) (cs:Array Value):zW (w.alloc (.cells cs t)) w.heap.size t cs:=heap_alloc_new w _
theorem zW.drew (h:zW w g t cs):zW w.drew g t cs:=h
theorem zW.alloc (h:zW w g t cs) (o:Obj):zW (w.alloc o) g t cs:=(Below.heap_alloc w o g h.lt).trans h
theorem zW.set_ (h:zW w g t cs) (i:Nat) (u:Value):zW (w.setCell ⟨g,i,none⟩ u) g t (cs.setIfInBounds i u):=by
 unfold zW at h ⊢;simp [World.setCell,Array.getElem?_modify,h]
theorem zW.grown {row:Option Nat} (h:zW w g t cs) (hb:w.grownBy w' row) (hg:some g ≠ row):zW w' g t cs:=(hb.block g h.lt hg).trans h
end
theorem Gw (w:World) (r:Option Nat):w.grownBy w r:=⟨rfl,rfl,rfl,tW _,λ_ _ _=>rfl⟩
theorem UH {a w:World} {r:Option Nat} (h:a.grownBy w r):a.grownBy w.drew r:=⟨h.os,h.tape,h.output,h.size,h.block⟩
theorem HX {a w:World} {r:Option Nat} (h:a.grownBy w r) (o:Obj):a.grownBy (w.alloc o) r:=
 ⟨h.os,h.tape,h.output,KP h.size (by simp),λi hi hne=>(Below.heap_alloc w o i (Tg hi h.size)).trans (h.block i hi hne)⟩
theorem gset {a w:World} {r:Option Nat} (h:a.grownBy w r) (g i:Nat) (u:Value) (hg:some g=r ∨ a.heap.size<=g):a.grownBy (w.setCell ⟨g,i,none⟩ u) r:=
 ⟨h.os,h.tape,h.output,by simpa [World.setCell] using h.size,λk hk hne=>(Below.heap_setCell w ⟨g,i,none⟩ u k (by
  intro e;have e':k=g:=e;subst e'
  rcases hg with hg | hg
  ·exact hne hg
  ·omega)).trans (h.block k hk hne)⟩
abbrev GG:=Nat->Nat->Option Value
def GB (w:World) (G:GG):Prop:=∀b o v,G b o=some v->w.cell? ⟨b,o,none⟩=some v
def Iv (G:GG) (b:Nat):Prop:=∀o,G b o=none
structure oB (B:Nat) (G G':GG):Prop where
 le:∀b o v,G b o=some v->G' b o=some v
 same:∀b,b<B->∀o,G' b o=G b o
theorem oB.refl (B:Nat) (G:GG):oB B G G:=⟨λ_ _ _ h=>h,λ_ _ _=>rfl⟩
theorem oB.trans {B B':Nat} {G G1 G2:GG} (h:oB B G G1) (k:oB B' G1 G2) (hB:B<=B'):oB B G G2:=
 ⟨λb o v hv=>k.le b o v (h.le b o v hv),λb hb o=>(k.same b (Tg hb hB) o).trans (h.same b hb o)⟩
theorem GB.grown {w w':World} {G:GG} {row:Option Nat} (h:GB w G) (hg:w.grownBy w' row) (hn:∀r,row=some r->Iv G r):GB w' G:=by
 intro b o v hv;refine hg.cell (h b o v hv) ?_;intro e;have:=hn b e.symm o;rw [this] at hv;cases hv
theorem GB.lt {w:World} {G:GG} (h:GB w G) {b o:Nat} {v:Value} (hv:G b o=some v):b<w.heap.size:=World.block_lt_of_cell? w ⟨b,o,none⟩ (h b o v hv)
theorem GB.out {w:World} {G:GG} (h:GB w G) {b:Nat} (hb:w.heap.size<=b):Iv G b:=by
 intro o;cases hv:G b o with
 | none=>rfl
 | some v=>have:=h.lt hv;omega
theorem Nw {G:GG} {rb:Nat} (hn:Iv G rb):∀r,some rb=some r->Iv G r:=by
 intro r hr
 injection hr with hr
 subst hr;exact hn
theorem Lc {G:GG}:∀r,(none:Option Nat)=some r->Iv G r:=by
 intro r hr;cases hr
theorem GB.alloc {w:World} {G:GG} (h:GB w G) (o:Obj):GB (w.alloc o) G:=h.grown (HX (Gw w none) o) Lc
theorem GB.drew {w:World} {G:GG} (h:GB w G):GB w.drew G:=h
theorem GB.drewN {w:World} {G:GG} (h:GB w G) (n:Nat):GB (w.drewN n) G:=h
def JJ (G:GG) (b:Nat) (cs:List Value):GG:=λb' o=>if b'=b then cs[o]? else G b' o
theorem lay_ext {G:GG} {b B:Nat} {cs:List Value} (ho:Iv G b) (hB:B<=b):oB B G (JJ G b cs):=by
 refine ⟨λb' o v hv=>?_,λb' hb o=>?_⟩
 ·unfold JJ
  split
  ·rename_i e;subst e;rw [ho o] at hv;cases hv
  ·exact hv
 ·unfold JJ;rw [bU (by omega)]
theorem JI {G:GG} {b:Nat} {cs:List Value} (i:Nat):JJ G b cs b i=cs[i]? := by simp [JJ]
theorem lay_out {G:GG} {b b':Nat} {cs:List Value} (ho:Iv G b') (hne:b' ≠ b):Iv (JJ G b cs) b':=by
 intro o;unfold JJ;rw [bU hne];exact ho o
theorem lay_com {w:World} {G:GG} {b:Nat} {cs:List Value} (h:GB w G) (hc:∀i u,cs[i]? = some u->w.cell? ⟨b,i,none⟩=some u):GB w (JJ G b cs):=by
 intro b' o v hv;unfold JJ at hv
 split at hv
 ·rename_i e;subst e;exact hc o v hv
 ·exact h _ _ _ hv
inductive SK where
 | int (k:IntKind) (n:Int)
 | bool (b:Bool)
 | str (s:ByteArray)
 | node (fs:List SK)
 | list (es:List SK)
inductive AC (G:GG):List SK->List Value->Prop where
 | nil:AC G [] []
 | int {k n ds cs}:(Lit.int k n).wf=true->AC G ds cs->AC G (.int k n::ds) (.int k n::cs)
 | bool {b ds cs}:AC G ds cs->AC G (.bool b::ds) (.bool b::cs)
 | str {s ds cs}:AC G ds cs->AC G (.str s::ds) (.string s::cs)
 | node {fs ds cs1 cs}:AC G fs cs1->AC G ds cs->AC G (.node fs::ds) (cs1++cs)
 | list {es ds cs1 cs a cap}:AC G es cs1->es.length<=cap->cap<=maxLen->(0<es.length->∃b off,a=some ⟨b,off,none⟩/\∀i u,cs1[i]? = some u->G b (off+i)=some u)->AC G ds cs ->
    AC G (.list es::ds) (.slice a es.length cap::cs)
theorem AC.mono {G G':GG} (hle:∀b o v,G b o=some v->G' b o=some v) {ds:List SK} {cs:List Value} (h:AC G ds cs):AC G' ds cs:=by
 induction h with
 | nil=>exact .nil
 | int hw _ ih=>exact .int hw ih
 | bool _ ih=>exact .bool ih
 | str _ ih=>exact .str ih
 | node _ _ ih1 ih2=>exact .node ih1 ih2
 | list _ hc hm ha _ ih1 ih2=>
   refine .list ih1 hc hm (λhl=>?_) ih2;obtain ⟨b,off,e,h⟩:=ha hl;exact ⟨b,off,e,λi u hu=>hle _ _ _ (h i u hu)⟩
def Ex (G:GG) (es:List SK) (a:Option Addr) (len cap:Nat):Prop:=
 len=es.length/\len<=cap/\cap<=maxLen/\∃cs,AC G es cs/\(0<len->∃b off,a=some ⟨b,off,none⟩/\∀i u,cs[i]? = some u->G b (off+i)=some u)
theorem AC.inv_nil {G:GG} {cs:List Value} (h:AC G [] cs):cs=[]:=by cases h;rfl
theorem AC.inv_int {G:GG} {k n ds cs} (h:AC G (.int k n::ds) cs):∃xs,cs=.int k n::xs/\(Lit.int k n).wf=true/\AC G ds xs:=by cases h with | int hw h=>exact ⟨_,rfl,hw,h⟩
structure St (G0:GG) (w0:World) (r:Option Nat) (G:GG) (w:World):Prop where
 ext:oB w0.heap.size G0 G
 com:GB w G
 gr:w0.grownBy w r
 out:∀g,r=some g->Iv G g/\g<w0.heap.size
section
variable {B:Nat} {G G':GG} {w w':World} {b:Nat} {t:TypeId} {cs:Array Value}
end
section
variable {B:Nat} {G G':GG} {w w':World} {e:TypeId} {size:Nat} {v:Value} {es:List SK}
end
def Src (w:World) (x:Value) (m:Nat) (news:List Value):Prop:=∃A c,x=.slice A m c/\(0<m->∃ad:Addr,A=some ad/\∀j u,news[j]? = some u->w.cell? (ad.add j)=some u)
theorem lT (b o j:Nat):(⟨b,o,none⟩:Addr).add j=⟨b,o+j,none⟩:=by unfold Addr.add;split <;> simp_all
section
variable {P:Program} (w:World)
end
open Go.Lib in
section
variable {P:Program}
end
section
variable {G0:GG} {w0:World} {rb tb sb T:Nat} {z:Array Value} {G G':GG} {w w':World} {cs:Array Value}
end
section
variable {wb:Nat} {row row1:Option Nat} {w w1 w2 w':World} {G:GG}
end
