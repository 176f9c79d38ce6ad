import Derived.Test.YtnheknbibdgglaaGreatDoorTHp
import Derived.Test.YtnheknbibdgglaaGreatDoorTFacts
import Derived.Laws.CopyOwn
import Derived.LoopN
import Derived.Shelf.RegionOpenPlain
namespace Go.Proofs.YtnheknbibdgglaaGreatDoor.Abs
open Go.RowKit
set_option linter.all false
def yH:List V->List V->Prop
 | [],[]=>True
 | u::us,v::vs=>(v=u ∨ (u=.nilv/\v=.list .none []))/\yH us vs
 | _,_=>False
theorem yH.app:∀ {us vs us' vs':List V},yH us vs->yH us' vs'->yH (us++us') (vs++vs')
 | [],[],_,_,_,h=>h
 | _::_,_::_,_,_,h,k=>⟨h.1,h.2.app k⟩
 | [],_::_,_,_,h,_=>h.elim
 | _::_,[],_,_,h,_=>h.elim
theorem yH.reps {us vs:List V} (h:yH us vs):∀n,yH (List.replicate n us).flatten (List.replicate n vs).flatten
 | 0=>trivial
 | n+1=>by rw [Ue,Ue,HO,HO];exact h.app (h.reps n)
theorem yH.mk {α:Type} {f:α->List V} {us:List V} {z:α} (h:yH us (f z)) (n:Nat):yH (List.replicate n us).flatten ((List.replicate n z).map f).flatten:=by rw [List.map_replicate];exact h.reps n
theorem yH.len:∀ {us vs:List V},yH us vs->vs.length=us.length
 | [],[],_=>rfl
 | _::_,_::_,h=>congrArg (· + 1) h.2.len
 | [],_::_,h=>h.elim
 | _::_,[],h=>h.elim
theorem yH.ok {c:Conc}:∀ {us vs:List V} {cs:List Value},yH us vs->CR c us cs->CR c vs cs
 | [],[],_,_,h=>h
 | u::us,v::vs,cs,h,k=>by
   obtain ⟨x,xs,rfl,h1,h2⟩:=k.uncons;refine CR.cons ?_ (h.2.ok h2)
   rcases h.1 with e | ⟨e1,e2⟩
   ·rw [e];exact h1
   ·rw [e1] at h1;obtain ⟨a,rfl⟩:=h1.inv_nilv;rw [e2];exact .list (sz:=1) (es:=[]) .nil (λ_ h=>nomatch h) Nat.one_pos (sZ _) (Jc _) (λh=>absurd h (by simp)) (λh=>absurd h (by simp)) (λ_ h=>nomatch h) trivial .nil
 | [],_::_,_,h,_=>h.elim
 | _::_,[],_,h,_=>h.elim
theorem fX.hnil {c:Conc} {m:M} {w:World} (h:fX c m w) {id:Pa} {vs vs':List V} (hv:m.hp id=some vs) (hn:yH vs vs'):fX c (m.seth (lE m.hp id vs')) w/\∀q,pA q c m w c (m.seth (lE m.hp id vs')) w:=by
 have hlive:∀s,fN (m.seth (lE m.hp id vs')) s=fN m s:=by
  intro s;cases s with
  | priv i=>
    show (if i=id then some vs' else m.hp i).isSome=(m.hp i).isSome
    by_cases e:i=id
    ·rw [if_pos e,e,hv];rfl
    ·rw [if_neg e]
  | _=>rfl
 have hown:∀b,eY c (m.seth (lE m.hp id vs')) b->eY c m b:=by
  rintro b (⟨i,hi,hr⟩ | ⟨s,cap,sz,len,hl,hk⟩)
  ·exact .inl ⟨i,hi,hr⟩
  ·exact .inr ⟨s,cap,sz,len,by rw [←hlive];exact hl,hk⟩
 refine ⟨⟨h.com,h.blk,h.inj,λs b cap sz len hl hk=>h.own s b cap sz len (by rw [←hlive];exact hl) hk,λs s' b cap sz len cap' sz' len' hl hl'=>h.ownInj s s' b cap sz len cap' sz' len' (by rw [←hlive];exact hl) (by rw [←hlive];exact hl'),h.ver,h.gl,h.ver0,h.base,λb hb=>⟨(h.lit b hb).1,(h.lit b hb).2.1,λho=>(h.lit b hb).2.2 (hown b ho)⟩,λi us hu=>?_⟩,
  λq=>⟨.refl c,rfl,rfl,rfl,sZ _,λ_ _ _ _=>rfl,λ_ _ _ _=>rfl,λb _ ho=>hown b ho,λ_ _ hf=>hf,λ_ _ hb=>⟨hb.blk,hb.anon,hb.cell,hb.ver,hb.tok⟩,λ_ _ hl=>hl⟩⟩
 have hu:(if i=id then some vs' else m.hp i)=some us:=hu
 by_cases e:i=id
 ·rw [if_pos e] at hu
  injection hu with hu
  subst hu e;obtain ⟨b,n,k1,cs,t,k2,k3,k4,k5⟩:=h.hpr i vs hv;refine ⟨b,n,k1,cs,t,k2,by rw [hn.len];exact k3,?_,k5⟩;rw [hn.len];exact hn.ok k4
 ·rw [if_neg e] at hu;exact h.hpr i us hu
@[go_sem] theorem back_hpV {q:Pa} {m m2:M}:(m.back q m2).hp=m2.hp:=rI rfl
@[go_sem] theorem back_ckU {q p:Pa} {m m2:M} {cs:List V} {h:Hp} {vr:Nat->Nat} (hq:(q <:+ p)=True):m.back q (m2.ck p cs h vr)=(m.back q m2).seth h:=by
 have hs:q.isSuffixOf p=true:=Ln.2 (of_eq_true hq);refine M.ext_hp (funext λi=>?_) (funext λi=>?_) rfl rfl rfl
 ·show (if q.isSuffixOf i then m.blk i else if i=p then some cs else m2.blk i)=if q.isSuffixOf i then m.blk i else m2.blk i
  by_cases e:i=p
  ·subst e;rw [if_pos hs,if_pos hs]
  ·rw [if_neg e]
 ·show (if q.isSuffixOf i then m.ver i else if i=p then vr else m2.ver i)=if q.isSuffixOf i then m.ver i else m2.ver i
  by_cases e:i=p
  ·subst e;rw [if_pos hs,if_pos hs]
  ·rw [if_neg e]
theorem Ka {q W:Pa} {h:Hp} {x:List V} (hf:∀i,q <:+ i->h i=none) (hw:(q <:+ W)=True):Ea q h (lE h W x)=h:=by
 funext i
 show (if q.isSuffixOf i then none else if i=W then some x else h i)=h i
 by_cases e:q.isSuffixOf i=true
 ·rw [if_pos e,hf i (Ln.1 e)]
 ·rw [if_neg e,if_neg];rintro rfl;exact e (Ln.2 (of_eq_true hw))
theorem Gw {q:Pa} {h:Hp} (hf:∀i,q <:+ i->h i=none):Ea q h h=h:=by
 funext i
 show (if q.isSuffixOf i then none else h i)=h i
 by_cases e:q.isSuffixOf i=true
 ·rw [if_pos e,hf i (Ln.1 e)]
 ·rw [if_neg e]
theorem EH {q W:Pa} {x:List V} (hw:(q <:+ W)=True):Ea q (λ_=>none) (lE (λ_=>none) W x)=λ_=>none:=Ka (λ_ _=>rfl) hw
theorem GX {q:Pa}:Ea q (λ_=>none) (λ_=>none)=λ_=>none:=Gw λ_ _=>rfl
theorem Ed {m:M} (h:m.hp=λ_=>none):m.seth (λ_=>none)=m:=by rw [←h];exact GQ
section
variable {P:Program} {N:Nat} {π:Pa} {k:Nat} {E:fJ} {m:M} {Q:Exit->Nat->fJ->M->Prop} {code:Code}
theorem RW {id:Pa} {vs vs':List V} (hv:m.hp id=some vs) (hn:yH vs vs') (h:SW P N π code k E (m.seth (lE m.hp id vs')) Q):SW P N π code k E m Q:=by
 intro hf c a w h1 h2 h3;obtain ⟨g1,g2⟩:=h1.hnil hv hn;refine wp_mono (h hf c a w g1 h2 h3) λe a' w' hp=>?_;exact hp.trans (g2 π) rfl (λ_ _=>rfl) (λt ht=>⟨ht,ht⟩)
theorem SW_frz {p id:Pa} {cs:List V} {off n sz:Nat} {α:Type} {f:α->List V} {l:List α} {h0:Hp} (hb:m.blk p=some cs) (ho:cs[off]? = some (.vec id sz n)) (hn:n=l.length) (hh:m.hp=lE h0 id (l.map f).flatten) (h00:h0 id=none) (hf:∀x,(f x).length=sz) (hz:0<sz)
  (h:SW P N π code k E ((m.seth h0).set p (cs.set off (.list .none (l.map f)))) Q):SW P N π code k E m Q:=by
 subst hn
 have hs:∀r ∈ l.map f,r.length=sz:=λr hr=>by
  obtain ⟨x,_,rfl⟩:=LW.1 hr;exact hf x
 have hhi:m.hp id=some (l.map f).flatten:=by rw [hh];exact if_pos rfl
 have hno:Gu m.hp [id]=h0:=by
  funext i
  show (if i ∈ [id] then none else m.hp i)=h0 i
  by_cases e:i=id
  ·rw [if_pos (by simp [e]),e,h00]
  ·rw [if_neg (by simp [e]),hh];exact if_neg e
 intro hfit c a w h1 h2 h3;obtain ⟨c',g1,g2,g3⟩:=h1.freezeL [id] (λi hi=>by rw [AV.1 hi,hhi];simp);rw [hno] at g1 g2;have hwk:=g3 id (by simp) _ hhi sz (l.map f) (by rw [xdq (by rw [EI hf,Hh];exact sZ _)]) hs;rw [Hh] at hwk;obtain ⟨r1,r2⟩:=g1.reCell (id:=p) (off:=off) (cs:=cs) (v0:=.vec id sz l.length) (u:=.list .none (l.map f)) hb ho (λy hy=>hwk c' (.refl c') y hy) (λ_=>rfl) (λrows e=>by injection e with e;cases e);have hX:=(g2 π).trans (r2 π);refine wp_mono (h hfit c' a w r1 ⟨h2.size,λt=>(h2.gC t).mono hX.le⟩ (λj hj id' fL=>?_)) λe a' w' hp=>?_
 ·exact ((g2 (0::id')).trans (r2 (0::id'))).fresh id' (λhs=>by have:=hs.length_le;simp only [pX] at this;omega) (h3 j hj id' fL)
 ·exact hp.trans hX rfl (λ_ _=>rfl) (λt ht=>⟨ht,ht⟩)
end
theorem make4 {ops:Array Oper} {rest:List Oper} {o:Oper} {a:Act} {Q:Exit->Act->World->Prop} {w:World} (hg:o.guard=none) (hop:o.op=Op.makeSlice 35 (.tmp 29) (.tmp 29)) (hl:a.eval (.tmp 29)=.int .i64 4)
  (hK:∀w2 c0 c1 c2 c3 e,Hid (w2.heap[w.heap.size]? = some (.cells #[c0,c1,c2,c3] e (0,0)))->Hid (w.grownBy w2 none)->wpList Tryz.prog ops Q rest (a.put o.dst (.slice (some ⟨w.heap.size,0,none⟩) 4 4)) w2):wpList Tryz.prog ops Q (o::rest) a w:=by
 obtain ⟨i,z,hi,e1,e2,hz,hz1,hz2⟩:=Ck (P:=Tryz.prog) sz43 zc43 by43 rfl;refine wpList_make_full w hg (.tmp 29) (.tmp 29) 35 hop w.heap.size 43 i z 1 (by kernel_rfl) hi hz e1 .i64 .i64 4 4 4 hl hl rfl rfl (by rw [e2];decide) (by decide) (sZ _) ?_;intro w2 hown hgr;obtain ⟨hlen,hrest⟩:=hown
 rcases hrest with ⟨h0,_⟩ | ⟨g,cap2,cur,h0,_,hB,hnc,hcm,hcs,htk⟩
 ·cases h0
 cases h0;obtain ⟨l⟩:=cur
 match l,hcs with
 | [c0,c1,c2,c3],_=>exact hK w2 c0 c1 c2 c3 _ (show _=_ from hB) (show World.grownBy _ _ _ from hgr)
theorem Nr {w:World} {g k:Nat} {cs:Array Value} {t:TypeId} {v:Value} (h:Hid (w.heap[g]? = some (.cells cs t (0,0)))) (hv:cs[k]? = some v):w.drew.cell? (Addr.add ⟨g,0,none⟩ k)=some v:=by
 have h:w.drew.heap[g]? = _:=h.out
 by_cases hk:k=0
 ·subst hk;simpa [World.cell?,Addr.add,h] using hv
 ·simpa [World.cell?,Addr.add,h,hk] using hv
theorem KX {w w2:World} (h:Hid (w.grownBy w2 none)):Hid (w.grownBy w2.drew none):=show World.grownBy _ _ _ from ⟨h.out.os,h.out.tape,h.out.output,h.out.size,h.out.block⟩
theorem QF {w w0:World} {ty:TypeId} {g off dLen dCap:Nat} {ad:Addr} {sLen sCap:Nat} (cur:List Value) {t:TypeId} (cs:List Value) {out:Array Value} (ho:(cur.take off++(cs++cur.drop (off+cs.length))).toArray=out) (hg:Hid (w.heap[g]? = some (.cells cur.toArray t (0,0)))) (hn:cs.length=Nat.min sLen dLen)
  (hsrc:∀j v,cs[j]? = some v->w.cell? (ad.add j)=some v) (hfit:off+cs.length<=cur.length) (h1:∀v ∈ cs,v.oneCell'=true) (hb:Hid (w0.grownBy w none)) (hgw:w0.heap.size<=g) :
  ∃w3,(Builtin.copy_ #[35,35] ty #[.slice (some ⟨g,off,none⟩) dLen dCap,.slice (some ad) sLen sCap]).run Tryz.prog w=.ok (goInt cs.length) w3/\Hid (w3.heap[g]? = some (.cells out t (0,0)))/\Hid (w0.grownBy w3 none):=by
 refine ⟨_,run_copy_row (P:=Tryz.prog) w 35 35 ty 43 g off dLen dCap ad sLen sCap cur.toArray t cs (by kernel_rfl) (by kernel_rfl) hg.out hn hsrc (by simpa using hfit) h1,(show _=_ from ?_),(show World.grownBy _ _ _ from ?_)⟩
 ·rw [←ho];simpa using setRow_heap w g _ _ t _ hg.out
 ·have hb:=hb.out;exact ⟨hb.os,hb.tape,hb.output,by simpa [World.setRow] using hb.size,λk hk hne=>by rw [setRow_other w g k _ (by omega)];exact hb.block k hk hne⟩
set_option maxRecDepth 100000 in
set_option maxHeartbeats 1000000 in
theorem Qm (w:World):Calls Tryz.prog 71 #[.int .u64 1,.int .u64 4] w λe w'=>e=.returned (.tuple #[.int .u64 0,.int .u64 4])/\w'=w:=by
 go_enter Tryz.func71,Tryz.ntmps71
 go_wp2_with fail
 go_ret2
 exact ⟨rfl,rfl⟩
set_option maxRecDepth 100000 in
set_option maxHeartbeats 1000000 in
theorem Vy (w:World):Calls Tryz.prog 41 #[.int .u64 1,.int .u64 4] w λe w'=>e=.returned (.tuple #[.int .u64 0,.int .u64 4])/\w'=w:=by
 go_enter Tryz.func41,Tryz.ntmps41
 go_wp2_with fail
 refine (Qm w).mono ?_;rintro e w' ⟨rfl,rfl⟩
 go_wp2_with fail
 go_ret2
 exact ⟨rfl,rfl⟩
set_option maxRecDepth 100000 in
set_option maxHeartbeats 1000000 in
theorem UY (x:Int) (b off cap:Nat) (w:World) (hx:Hid (w.cell? ⟨b,off,none⟩=some (.int .u32 x))):Calls Tryz.prog 20 #[.slice (some ⟨b,off,none⟩) 1 cap,.int .i64 4] w λe w'=>e=.returned (.slice (some ⟨w.heap.size,0,none⟩) 4 4)/\∃t,w'.heap[w.heap.size]? = some (.cells #[.int .u32 x,.int .u32 x,.int .u32 x,.int .u32 x] t (0,0))/\w.grownBy w' none:=by
 go_enter Tryz.func20,Tryz.ntmps20
 go_wp2_with fail
 refine (Vy w).mono ?_;rintro e w' ⟨rfl,rfl⟩
 go_wp2_with (refine make4 rfl rfl rfl ?_)
 intro w2 c0 c1 c2 c3 e hB hg
 have hx2:Hid (w2.cell? ⟨b,off,none⟩=some (.int .u32 x)):=by
  have h1:=hx.out
  have hlt:b<w'.heap.size:=by
   rcases Nat.lt_or_ge b w'.heap.size with h | h
   ·exact h
   ·unfold World.cell? at h1;rw [Array.getElem?_eq_none h] at h1;cases h1
  refine show _=_ from ?_;rw [←h1];unfold World.cell?;rw [hg.out.block b hlt (by simp)]
 clear hx
 go_wp2_with fail
 have hrun:∀ty,∃w3,(Builtin.copy_ #[35,35] ty #[.slice (some ⟨w'.heap.size,0,none⟩) 4 4,.slice (some ⟨b,off,none⟩) 1 cap]).run Tryz.prog w2=.ok (.int .i64 1) w3/\Hid (w3.heap[w'.heap.size]? = some (.cells #[.int .u32 x,c1,c2,c3] e (0,0)))/\Hid (w'.grownBy w3 none):=λty=>QF [c0,c1,c2,c3] [.int .u32 x] rfl hB rfl (by intro j v hj;cases j with | zero=>injection hj with hj;subst hj;exact hx2.out | succ j=>cases hj) (by simp) (by intro v hv;rw [AV.1 hv];rfl) hg (sZ _);obtain ⟨w3,hrun3,hB3,hg3⟩:=hrun 3;rw [hrun3];clear hrun hrun3 hB hg hx2
 go_wp2_with fail
 obtain ⟨w4,hrun4,hB4,hg4⟩:=QF (w:=w3.drew) (w0:=w') (ty:=3) (g:=w'.heap.size) (off:=1) (dLen:=3) (dCap:=3) (ad:=⟨w'.heap.size,0,none⟩) (sLen:=1) (sCap:=4) (t:=e) [.int .u32 x,c1,c2,c3] [.int .u32 x] rfl (show _=_ from hB3.out) rfl (by intro j v hj;cases j with | zero=>injection hj with hj;subst hj;exact Nr hB3 rfl | succ j=>cases hj) (by simp) (by intro v hv;rw [AV.1 hv];rfl) (KX hg3) (sZ _);obtain ⟨w5,hrun5,hB5,hg5⟩:=QF (w:=w4.drew) (w0:=w') (ty:=3) (g:=w'.heap.size) (off:=2) (dLen:=2) (dCap:=2) (ad:=⟨w'.heap.size,0,none⟩) (sLen:=2) (sCap:=4) (t:=e) [.int .u32 x,.int .u32 x,c2,c3] [.int .u32 x,.int .u32 x] rfl (show _=_ from hB4.out) rfl (by intro j v hj;match j with | 0=>injection hj with hj;subst hj;exact Nr hB4 rfl | 1=>injection hj with hj;subst hj;exact Nr hB4 rfl | j+2=>cases hj) (by simp) (by intro v hv;simp only [ES,TU,or_false,or_self] at hv;rw [hv];rfl) (KX hg4) (sZ _);clear hB3 hg3 hB4 hg4;have mixed:Tryz.prog.follows .mixedOrders=true:=by kernel_rfl
 refine wp_loop_rounds 3 ?_;rw [rounds_succ]
 go_wp2_with fail
 go_region_o
 all_goals go_wp2_with fail
 all_goals rw [rounds_succ]
 all_goals go_wp2_with fail
 all_goals go_region_o
 all_goals go_wp2_with fail
 all_goals rw [rounds_succ]
 all_goals go_wp2_with fail
 all_goals go_ret
 all_goals exact ⟨rfl,e,hB5.out,hg5.out⟩
theorem SO {a0:List Int} {a1:Int} {r:List Int} (h:(if a0.length=1/\a1=4 then some (a0++a0++a0++a0) else none)=some r) (q:Pa) (m:M) (vs:List V) (hv:vs.map V.weak1=[.list .none (a0.map (cI .u32)),.lit (.int .i64 a1)]) :
  SC Tryz.prog 20 vs q m (λv m'=>v=.list .exact (r.map (cI .u32))/\m'=m):=by
 split at h
 ·rename_i hc;obtain ⟨h1,rfl⟩:=hc
  match a0,h1 with
  | [x],_=>
    cases h;refine SC.weak ?_;rw [hv];intro c xs w hR hx hf;obtain ⟨u,us,rfl,k1,k2⟩:=hx.uncons;obtain ⟨y,rfl,k3⟩:=k2.inv_one;obtain rfl:=k3.inv_lit;obtain ⟨a,cap,es,sz,rfl,g1,g2,g3,g4,g5,g6,g7,g8,g9⟩:=k1.inv_list;obtain ⟨b,off,rfl,hl⟩:=g7 (by rw [g1.len];exact Nat.one_pos);obtain ⟨z,rfl,g1⟩:=g1.inv_one;obtain rfl:=g1.inv_lit;have hcell:=hR.com b off _ (hl 0 _ rfl);refine .inl ⟨Tryz.call20 _ w,?_⟩;refine (UY x b off cap w (show _=_ from hcell)).mono λe w' ⟨he,t,hB,hg⟩=>?_
    obtain ⟨c',r1,r2,r3⟩:=Ms (q:=q) hR hg (rows:=[[.lit (.int .u32 x)],[.lit (.int .u32 x)],[.lit (.int .u32 x)],[.lit (.int .u32 x)]]) (es:=[.int .u32 x,.int .u32 x,.int .u32 x,.int .u32 x]) (sz:=1) (b:=w.heap.size) (cap:=4) (sZ _) (Array.getElem?_eq_some_iff.1 hB).1 (λj v hj=>by
     simp only [World.cell?,hB];simpa using hj) (.lit (.lit (.lit (.lit .nil)))) (by intro r hr;simp only [ES,TU,or_false,or_self] at hr;rw [hr];rfl) (by decide) (by intro v hv;simp only [ES,TU,or_false,or_self] at hv;rw [hv];rfl) (by decide) rfl
    exact ⟨_,c',_,m,he,⟨rfl,rfl⟩,r1,r2,r3⟩
 ·cases h
