import Derived.WalkKit
import Derived.WalkSpells
import Derived.WalkLawsBesides
import Derived.OpenShut
import Derived.Maps.AppendAt
import Derived.Deep.RegionWith
import Derived.Deep.RegionLaw
import Derived.Deep.AppendLies
import Derived.Lib.AppendStr
set_option linter.all false
namespace Go.Proofs.YtnheknbibdgglaaGreatDoor
theorem rI {p:Prop} (h:p):p:=h
abbrev dV:=@Option.bind_some
abbrev mX:=@List.length_append
abbrev pX:=@List.length_cons
abbrev sW:=@List.length_singleton
abbrev sX:=@decide_eq_true_eq
abbrev sZ:=@Nat.le_refl
abbrev sY:=@List.length_nil
abbrev tA:=@decide_eq_true
abbrev vJ:=@List.getElem?_eq_some_iff
abbrev vK:=@List.length_set
abbrev wB:=@List.getElem?_eq_getElem
abbrev xK:=@List.map_cons
abbrev AV:=@List.mem_singleton
abbrev By:=@of_decide_eq_true
abbrev Cu:=@List.mem_append
abbrev Ct:=@List.drop_zero
abbrev Dh:=@List.nil_append
abbrev Dg:=@List.map_nil
abbrev Dq:=@Int.toNat_natCast
abbrev ES:=@List.mem_cons
abbrev FK:=@List.mem_of_getElem?
abbrev Gb:=@List.append_assoc
abbrev Ga:=@List.append_nil
abbrev FZ:=@Bool.false_eq_true
abbrev Hh:=@List.length_map
abbrev HO:=@List.flatten_cons
abbrev HS:=@List.getElem?_map
abbrev Jc:=@Nat.zero_le
abbrev JS:=@Nat.succ_mul
abbrev JR:=@Nat.le_trans
abbrev JQ:=@List.length_take
abbrev JO:=@Nat.lt_succ_self
abbrev JN:=@List.mem_append_left
abbrev Lo:=@Nat.zero_add
abbrev Ln:=@List.isSuffixOf_iff_suffix
abbrev Lx:=@List.getElem?_append_right
abbrev LY:=@List.suffix_refl
abbrev LX:=@List.all_eq_true
abbrev LW:=@List.mem_map
abbrev LV:=@List.cons_append
abbrev LU:=@List.getElem_mem
abbrev MJ:=@Bool.and_eq_true
abbrev MI:=@List.getElem?_append_left
abbrev MH:=@List.prefix_append
abbrev NG:=@Option.map_some
abbrev NR:=@List.drop_succ_cons
abbrev NQ:=@List.drop_eq_getElem_cons
abbrev NP:=@of_decide_eq_false
abbrev NO:=@List.mem_append_right
abbrev Pz:=@List.getElem?_set_ne
abbrev Py:=@List.mem_of_mem_take
abbrev Px:=@List.set_cons_zero
abbrev Pw:=@List.length_drop
abbrev Pv:=@List.singleton_append
abbrev Pu:=@Sum.elim_inr
abbrev Pt:=@List.mem_cons_of_mem
abbrev PL:=@List.getElem?_set_self
abbrev PK:=@List.getElem?_set
abbrev PJ:=@List.mem_filter
abbrev PH:=@Nat.mul_one
abbrev Re:=@List.getElem?_eq_none
abbrev Rc:=@Array.length_toList
abbrev Rb:=@Array.getD_eq_getD_getElem?
abbrev QZ:=@List.take_succ_cons
abbrev Sg:=@List.ext_getElem?
abbrev Sf:=@List.take_zero
abbrev Se:=@Int.le_refl
abbrev Sd:=@Int.eq_ofNat_of_zero_le
abbrev Sc:=@decide_eq_false
abbrev Sb:=@List.prefix_refl
abbrev TV:=@Nat.add_mul
abbrev TU:=@List.not_mem_nil
abbrev TT:=@List.countP_cons
abbrev TS:=@List.mem_range
abbrev TR:=@List.drop_eq_nil_of_le
abbrev TQ:=@Int.tdiv_eq_ediv_of_nonneg
abbrev Ul:=@Nat.lt_of_lt_of_le
abbrev Uk:=@List.getElem?_mapIdx
abbrev Uj:=@List.mem_or_eq_of_mem_set
abbrev Ui:=@Nat.add_zero
abbrev Uh:=@Nat.mul_le_mul_right
abbrev Ug:=@List.set_cons_succ
abbrev Uf:=@List.mem_of_mem_drop
abbrev Ue:=@List.replicate_succ
abbrev Ud:=@List.map_append
abbrev xdh:=@List.map_congr_left
abbrev xdi:=@List.getElem?_drop
abbrev xdj:=@List.getElem?_take
abbrev xdk:=@List.mem_replicate
abbrev xdl:=@List.length_replicate
abbrev xdm:=@Nat.le_succ
abbrev xdn:=@Sum.elim_inl
abbrev xdo:=@List.getElem?_toArray
abbrev xdp:=@List.map_map
abbrev xdq:=@List.take_of_length_le
abbrev xdr:=@Nat.min_eq_left
abbrev xds:=@List.mem_cons_self
abbrev xdt:=@Bool.or_eq_true
abbrev xdu:=@Bool.not_eq_true'
abbrev xdv:=@List.head?_drop
abbrev xdw:=@Nat.lt_irrefl
abbrev xdx:=@Nat.sub_self
abbrev xdy:=@List.getElem?_cons_succ
abbrev xdz:=@List.size_toArray
abbrev xea:=@List.take_length
abbrev xeb:=@Int.tmod_eq_emod_of_nonneg
abbrev xec:=@Array.getElem?_toList
abbrev xed:=@Array.toList_setIfInBounds
abbrev xee:=@List.getElem?_cons_zero
abbrev xef:=@List.getElem?_range
abbrev xeg:=@Int.fdiv_eq_ediv_of_nonneg
abbrev xeh:=@List.take_append_drop
abbrev xei:=@List.getElem?_take_of_lt
abbrev xej:=@Array.mapM_eq_mapM_toList
open Go.RowKit
theorem fL {p:Prop} (h:p):Hid p:=h
def AT (w:World) (g:Nat) (t:TypeId) (cs:Array Value):Prop:=w.heap[g]? = some (.cells cs t (0,0))
section
variable {w w':World} {g:Nat} {t:TypeId} {cs:Array Value}
theorem AT.lt (h:AT w g t cs):g<w.heap.size:=by
 rcases Nat.lt_or_ge g w.heap.size with hlt | hge
 ·exact hlt
 ·unfold AT at h;rw [Array.getElem?_eq_none hge] at h;cases h
theorem AT.cell (h:AT w g t cs) (i:Nat):w.cell? ⟨g,i,none⟩=cs[i]? := by unfold AT at h;simp [World.cell?,h]
theorem AT.frozen (h:AT w g t cs) (i:Nat):w.frozen? ⟨g,i,none⟩=false:=by unfold AT at h;simp [World.frozen?,h]
theorem AT.new (w:World) (t:TypeId) (cs:Array Value):AT (w.alloc (.cells cs t)) w.heap.size t cs:=heap_alloc_new w _
theorem AT.drew (h:AT w g t cs):AT w.drew g t cs:=h
theorem AT.alloc (h:AT w g t cs) (o:Obj):AT (w.alloc o) g t cs:=(Below.heap_alloc w o g h.lt).trans h
theorem AT.set_ (h:AT w g t cs) (i:Nat) (u:Value):AT (w.setCell ⟨g,i,none⟩ u) g t (cs.setIfInBounds i u):=by
 unfold AT at h ⊢;simp [World.setCell,Array.getElem?_modify,h]
theorem AT.grown {row:Option Nat} (h:AT w g t cs) (hb:w.grownBy w' row) (hg:some g ≠ row):AT w' g t cs:=(hb.block g h.lt hg).trans h
end
theorem Hu (w:World) (r:Option Nat):w.grownBy w r:=⟨rfl,rfl,rfl,sZ _,λ_ _ _=>rfl⟩
theorem VU {a w:World} {r:Option Nat} (h:a.grownBy w r):a.grownBy w.drew r:=⟨h.os,h.tape,h.output,h.size,h.block⟩
theorem IS {a w:World} {r:Option Nat} (h:a.grownBy w r) (o:Obj):a.grownBy (w.alloc o) r:=
 ⟨h.os,h.tape,h.output,JR h.size (by simp),λi hi hne=>(Below.heap_alloc w o i (Ul hi h.size)).trans (h.block i hi hne)⟩
theorem gset {a w:World} {r:Option Nat} (h:a.grownBy w r) (g i:Nat) (u:Value) (hg:some g=r ∨ a.heap.size<=g):a.grownBy (w.setCell ⟨g,i,none⟩ u) r:=
 ⟨h.os,h.tape,h.output,by simpa [World.setCell] using h.size,λk hk hne=>(Below.heap_setCell w ⟨g,i,none⟩ u k (by
  intro e;have e':k=g:=e;subst e'
  rcases hg with hg | hg
  ·exact hne hg
  ·omega)).trans (h.block k hk hne)⟩
abbrev GG:=Nat->Nat->Option Value
def Hg (w:World) (G:GG):Prop:=∀b o v,G b o=some v->w.cell? ⟨b,o,none⟩=some v
def JI (G:GG) (b:Nat):Prop:=∀o,G b o=none
structure pA (B:Nat) (G G':GG):Prop where
 le:∀b o v,G b o=some v->G' b o=some v
 same:∀b,b<B->∀o,G' b o=G b o
theorem pA.refl (B:Nat) (G:GG):pA B G G:=⟨λ_ _ _ h=>h,λ_ _ _=>rfl⟩
theorem pA.trans {B B':Nat} {G G1 G2:GG} (h:pA B G G1) (k:pA B' G1 G2) (hB:B<=B'):pA B G G2:=
 ⟨λb o v hv=>k.le b o v (h.le b o v hv),λb hb o=>(k.same b (Ul hb hB) o).trans (h.same b hb o)⟩
theorem Hg.grown {w w':World} {G:GG} {row:Option Nat} (h:Hg w G) (hg:w.grownBy w' row) (hn:∀r,row=some r->JI G r):Hg w' G:=by
 intro b o v hv;refine hg.cell (h b o v hv) ?_;intro e;have:=hn b e.symm o;rw [this] at hv;cases hv
theorem Hg.lt {w:World} {G:GG} (h:Hg w G) {b o:Nat} {v:Value} (hv:G b o=some v):b<w.heap.size:=World.block_lt_of_cell? w ⟨b,o,none⟩ (h b o v hv)
theorem Hg.out {w:World} {G:GG} (h:Hg w G) {b:Nat} (hb:w.heap.size<=b):JI G b:=by
 intro o;cases hv:G b o with
 | none=>rfl
 | some v=>have:=h.lt hv;omega
theorem OB {G:GG} {rb:Nat} (hn:JI G rb):∀r,some rb=some r->JI G r:=by
 intro r hr
 injection hr with hr
 subst hr;exact hn
theorem Mo {G:GG}:∀r,(none:Option Nat)=some r->JI G r:=by
 intro r hr;cases hr
theorem Hg.alloc {w:World} {G:GG} (h:Hg w G) (o:Obj):Hg (w.alloc o) G:=h.grown (IS (Hu w none) o) Mo
theorem Hg.drew {w:World} {G:GG} (h:Hg w G):Hg w.drew G:=h
theorem Hg.drewN {w:World} {G:GG} (h:Hg w G) (n:Nat):Hg (w.drewN n) G:=h
def KQ (G:GG) (b:Nat) (cs:List Value):GG:=λb' o=>if b'=b then cs[o]? else G b' o
theorem lay_ext {G:GG} {b B:Nat} {cs:List Value} (ho:JI G b) (hB:B<=b):pA B G (KQ G b cs):=by
 refine ⟨λb' o v hv=>?_,λb' hb o=>?_⟩
 ·unfold KQ
  split
  ·rename_i e;subst e;rw [ho o] at hv;cases hv
  ·exact hv
 ·unfold KQ;rw [if_neg (by omega)]
theorem KP {G:GG} {b:Nat} {cs:List Value} (i:Nat):KQ G b cs b i=cs[i]? := by simp [KQ]
theorem lay_out {G:GG} {b b':Nat} {cs:List Value} (ho:JI G b') (hne:b' ≠ b):JI (KQ G b cs) b':=by
 intro o;unfold KQ;rw [if_neg hne];exact ho o
theorem lay_com {w:World} {G:GG} {b:Nat} {cs:List Value} (h:Hg w G) (hc:∀i u,cs[i]? = some u->w.cell? ⟨b,i,none⟩=some u):Hg w (KQ G b cs):=by
 intro b' o v hv;unfold KQ at hv
 split at hv
 ·rename_i e;subst e;exact hc o v hv
 ·exact h _ _ _ hv
inductive TN where
 | int (k:IntKind) (n:Int)
 | bool (b:Bool)
 | str (s:ByteArray)
 | node (fs:List TN)
 | list (es:List TN)
inductive Bw (G:GG):List TN->List Value->Prop where
 | nil:Bw G [] []
 | int {k n ds cs}:(Lit.int k n).wf=true->Bw G ds cs->Bw G (.int k n::ds) (.int k n::cs)
 | bool {b ds cs}:Bw G ds cs->Bw G (.bool b::ds) (.bool b::cs)
 | str {s ds cs}:Bw G ds cs->Bw G (.str s::ds) (.string s::cs)
 | node {fs ds cs1 cs}:Bw G fs cs1->Bw G ds cs->Bw G (.node fs::ds) (cs1++cs)
 | list {es ds cs1 cs a cap}:Bw G es cs1->es.length<=cap->cap<=maxLen->(0<es.length->∃b off,a=some ⟨b,off,none⟩/\∀i u,cs1[i]? = some u->G b (off+i)=some u)->Bw G ds cs ->
    Bw G (.list es::ds) (.slice a es.length cap::cs)
theorem Bw.mono {G G':GG} (hle:∀b o v,G b o=some v->G' b o=some v) {ds:List TN} {cs:List Value} (h:Bw G ds cs):Bw G' ds cs:=by
 induction h with
 | nil=>exact .nil
 | int hw _ ih=>exact .int hw ih
 | bool _ ih=>exact .bool ih
 | str _ ih=>exact .str ih
 | node _ _ ih1 ih2=>exact .node ih1 ih2
 | list _ hc hm ha _ ih1 ih2=>
   refine .list ih1 hc hm (λhl=>?_) ih2;obtain ⟨b,off,e,h⟩:=ha hl;exact ⟨b,off,e,λi u hu=>hle _ _ _ (h i u hu)⟩
def FE (G:GG) (es:List TN) (a:Option Addr) (len cap:Nat):Prop:=
 len=es.length/\len<=cap/\cap<=maxLen/\∃cs,Bw G es cs/\(0<len->∃b off,a=some ⟨b,off,none⟩/\∀i u,cs[i]? = some u->G b (off+i)=some u)
theorem Bw.inv_nil {G:GG} {cs:List Value} (h:Bw G [] cs):cs=[]:=by cases h;rfl
theorem Bw.inv_int {G:GG} {k n ds cs} (h:Bw G (.int k n::ds) cs):∃xs,cs=.int k n::xs/\(Lit.int k n).wf=true/\Bw G ds xs:=by cases h with | int hw h=>exact ⟨_,rfl,hw,h⟩
section
variable {B:Nat} {G G':GG} {w w':World} {b:Nat} {t:TypeId} {cs:Array Value}
end
section
variable {B:Nat} {G G':GG} {w w':World} {e:TypeId} {size:Nat} {v:Value} {es:List TN}
end
def Src (w:World) (x:Value) (m:Nat) (news:List Value):Prop:=∃A c,x=.slice A m c/\(0<m->∃ad:Addr,A=some ad/\∀j u,news[j]? = some u->w.cell? (ad.add j)=some u)
theorem mW (b o j:Nat):(⟨b,o,none⟩:Addr).add j=⟨b,o+j,none⟩:=by unfold Addr.add;split <;> simp_all
section
variable {P:Program} (w:World)
end
open Go.Lib in
section
variable {P:Program}
end
section
variable {G0:GG} {w0:World} {rb tb sb T:Nat} {z:Array Value} {G G':GG} {w w':World} {cs:Array Value}
end
section
variable {wb:Nat} {row row1:Option Nat} {w w1 w2 w':World} {G:GG}
end
