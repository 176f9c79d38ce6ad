import Derived.Test.YtknbgnpeiohifaaGreatDoorGHp
import Derived.Test.YtknbgnpeiohifaaGreatDoorGFacts
import Derived.Laws.CopyOwn
import Derived.LoopN
import Derived.Shelf.RegionOpenPlain
namespace Go.Proofs.YtknbgnpeiohifaaGreatDoor.Abs
open Go.RowKit
set_option linter.all false
def BJ:List V->List V->Prop
 | [],[]=>True
 | u::us,v::vs=>(v=u ∨ (u=.nilv/\v=.list .none []))/\BJ us vs
 | _,_=>False
theorem BJ.app:∀ {us vs us' vs':List V},BJ us vs->BJ us' vs'->BJ (us++us') (vs++vs')
 | [],[],_,_,_,h=>h
 | _::_,_::_,_,_,h,k=>⟨h.1,h.2.app k⟩
 | [],_::_,_,_,h,_=>h.elim
 | _::_,[],_,_,h,_=>h.elim
theorem BJ.reps {us vs:List V} (h:BJ us vs):∀n,BJ (List.replicate n us).flatten (List.replicate n vs).flatten
 | 0=>trivial
 | n+1=>by rw [xdm,xdm,Ll,Ll];exact h.app (h.reps n)
theorem BJ.mk {α:Type} {f:α->List V} {us:List V} {z:α} (h:BJ us (f z)) (n:Nat):BJ (List.replicate n us).flatten ((List.replicate n z).map f).flatten:=by rw [List.map_replicate];exact h.reps n
theorem BJ.len:∀ {us vs:List V},BJ us vs->vs.length=us.length
 | [],[],_=>rfl
 | _::_,_::_,h=>DI (· + 1) h.2.len
 | [],_::_,h=>h.elim
 | _::_,[],h=>h.elim
theorem BJ.ok {c:Conc}:∀ {us vs:List V} {cs:List Value},BJ us vs->CR c us cs->CR c vs cs
 | [],[],_,_,h=>h
 | u::us,v::vs,cs,h,k=>by
   obtain ⟨x,xs,rfl,h1,h2⟩:=k.uncons;refine CR.cons ?_ (h.2.ok h2)
   rcases h.1 with e | ⟨e1,e2⟩
   ·rw [e];exact h1
   ·rw [e1] at h1;obtain ⟨a,rfl⟩:=h1.inv_nilv;rw [e2];exact .list (sz:=1) (es:=[]) .nil (λ_ h=>nomatch h) Nat.one_pos (uZ _) (Ko _) (λh=>cM h zd) (λh=>cM h zd) (λ_ h=>nomatch h) trivial .nil
 | [],_::_,_,h,_=>h.elim
 | _::_,[],_,h,_=>h.elim
theorem gT.hnil {c:Conc} {m:M} {w:World} (h:gT c m w) {id:Pa} {vs vs':List V} (hv:m.hp id=some vs) (hn:BJ vs vs'):gT c (m.seth (qL m.hp id vs')) w/\∀q,qK q c m w c (m.seth (qL m.hp id vs')) w:=by
 have hlive:∀s,gJ (m.seth (qL m.hp id vs')) s=gJ m s:=by
  intro s;cases s with
  | priv i=>
    show (if i=id then some vs' else m.hp i).isSome=(m.hp i).isSome
    by_cases e:i=id
    ·rw [cX e,e,hv];rfl
    ·rw [cE e]
  | _=>rfl
 have hown:∀b,fN c (m.seth (qL m.hp id vs')) b->fN c m b:=by
  rintro b (⟨i,hi,hr⟩ | ⟨s,cap,sz,len,hl,hk⟩)
  ·exact .inl ⟨i,hi,hr⟩
  ·exact .inr ⟨s,cap,sz,len,by rw [←hlive];exact hl,hk⟩
 refine ⟨⟨h.com,h.blk,h.inj,λs b cap sz len hl hk=>h.own s b cap sz len (by rw [←hlive];exact hl) hk,λs s' b cap sz len cap' sz' len' hl hl'=>h.ownInj s s' b cap sz len cap' sz' len' (by rw [←hlive];exact hl) (by rw [←hlive];exact hl'),h.ver,h.gl,h.ver0,h.base,λb hb=>⟨(h.lit b hb).1,(h.lit b hb).2.1,λho=>(h.lit b hb).2.2 (hown b ho)⟩,λi us hu=>?_⟩,
  λq=>⟨.refl c,rfl,rfl,rfl,uZ _,λ_ _ _ _=>rfl,λ_ _ _ _=>rfl,λb _ ho=>hown b ho,λ_ _ hf=>hf,λ_ _ hb=>⟨hb.blk,hb.anon,hb.cell,hb.ver,hb.tok⟩,λ_ _ hl=>hl⟩⟩
 have hu:(if i=id then some vs' else m.hp i)=some us:=hu
 by_cases e:i=id
 ·rw [cX e] at hu
  injection hu with hu
  subst hu e;obtain ⟨b,n,k1,cs,t,k2,k3,k4,k5⟩:=h.hpr i vs hv;refine ⟨b,n,k1,cs,t,k2,by rw [hn.len];exact k3,?_,k5⟩;rw [hn.len];exact hn.ok k4
 ·rw [cE e] at hu;exact h.hpr i us hu
@[go_sem] theorem back_ckU {q p:Pa} {m m2:M} {cs:List V} {h:Hp} {vr:Nat->Nat} (hq:(q <:+ p)=True):m.back q (m2.ck p cs h vr)=(m.back q m2).seth h:=by
 have hs:q.isSuffixOf p=true:=Px.2 (of_eq_true hq);refine M.ext_hp (funext λi=>?_) (funext λi=>?_) rfl rfl rfl
 ·show (if q.isSuffixOf i then m.blk i else if i=p then some cs else m2.blk i)=if q.isSuffixOf i then m.blk i else m2.blk i
  by_cases e:i=p
  ·subst e;rw [cX hs,cX hs]
  ·rw [cE e]
 ·show (if q.isSuffixOf i then m.ver i else if i=p then vr else m2.ver i)=if q.isSuffixOf i then m.ver i else m2.ver i
  by_cases e:i=p
  ·subst e;rw [cX hs,cX hs]
  ·rw [cE e]
theorem Wl {q W:Pa} {h:Hp} {x:List V} (hf:∀i,q <:+ i->h i=none) (hw:(q <:+ W)=True):Jz q h (qL h W x)=h:=by
 funext i
 show (if q.isSuffixOf i then none else if i=W then some x else h i)=h i
 by_cases e:q.isSuffixOf i=true
 ·rw [cX e,hf i (Px.1 e)]
 ·rw [cE e,cE];rintro rfl;exact e (Px.2 (of_eq_true hw))
theorem OZ {q:Pa} {h:Hp} (hf:∀i,q <:+ i->h i=none):Jz q h h=h:=by
 funext i
 show (if q.isSuffixOf i then none else h i)=h i
 by_cases e:q.isSuffixOf i=true
 ·rw [cX e,hf i (Px.1 e)]
 ·rw [cE e]
section
variable {P:Program} {N:Nat} {π:Pa} {k:Nat} {E:gE} {m:M} {Q:Exit->Nat->gE->M->Prop} {code:Code}
theorem SW_hnil {id:Pa} {vs vs':List V} (hv:m.hp id=some vs) (hn:BJ vs vs') (h:SW P N π code k E (m.seth (qL m.hp id vs')) Q):SW P N π code k E m Q:=by
 intro hf c a w h1 h2 h3;obtain ⟨g1,g2⟩:=h1.hnil hv hn;refine wp_mono (h hf c a w g1 h2 h3) λe a' w' hp=>?_;exact hp.trans (g2 π) rfl (λ_ _=>rfl) (λt ht=>⟨ht,ht⟩)
theorem SW_frz {p id:Pa} {cs:List V} {off n sz:Nat} {α:Type} {f:α->List V} {l:List α} {h0:Hp} (hb:m.blk p=some cs) (ho:cs[off]? = some (.vec id sz n)) (hn:n=l.length) (hh:m.hp=qL h0 id (l.map f).flatten) (h00:h0 id=none) (hf:∀x,(f x).length=sz) (hz:0<sz)
  (h:SW P N π code k E ((m.seth h0).set p (cs.set off (.list .none (l.map f)))) Q):SW P N π code k E m Q:=by
 subst hn
 have hs:∀r ∈ l.map f,r.length=sz:=λr hr=>by
  obtain ⟨x,_,rfl⟩:=Qo.1 hr;exact hf x
 have hhi:m.hp id=some (l.map f).flatten:=by rw [hh];exact cX rfl
 have hno:Jv m.hp [id]=h0:=by
  funext i
  show (if i ∈ [id] then none else m.hp i)=h0 i
  by_cases e:i=id
  ·rw [cX (by simp [e]),e,h00]
  ·rw [cE (by simp [e]),hh];exact cE e
 intro hfit c a w h1 h2 h3;obtain ⟨c',g1,g2,g3⟩:=h1.freezeL [id] (λi hi=>by rw [zU.1 hi,hhi];simp);rw [hno] at g1 g2;have hwk:=g3 id zd _ hhi sz (l.map f) (by rw [xdq (by rw [Ht hf,Kn];exact uZ _)]) hs;rw [Kn] at hwk;obtain ⟨r1,r2⟩:=g1.reCell (id:=p) (off:=off) (cs:=cs) (v0:=.vec id sz l.length) (u:=.list .none (l.map f)) hb ho (λy hy=>hwk c' (.refl c') y hy) (λ_=>rfl) (λrows e=>by injection e with e;cases e);have hX:=(g2 π).trans (r2 π);refine wp_mono (h hfit c' a w r1 ⟨h2.size,λt=>(h2.fW t).mono hX.le⟩ (λj hj id' gG=>?_)) λe a' w' hp=>?_
 ·exact ((g2 (0::id')).trans (r2 (0::id'))).fresh id' (λhs=>by have:=hs.length_le;simp only [qB] at this;omega) (h3 j hj id' gG)
 ·exact hp.trans hX rfl (λ_ _=>rfl) (λt ht=>⟨ht,ht⟩)
end
theorem make4 {ops:Array Oper} {rest:List Oper} {o:Oper} {a:Act} {Q:Exit->Act->World->Prop} {w:World} (hg:o.guard=none) (hop:o.op=Op.makeSlice 52 (.tmp 29) (.tmp 29)) (hl:a.eval (.tmp 29)=.int .i64 4)
  (hK:∀w2 c0 c1 c2 c3 e,Hid (w2.heap[w.heap.size]? = some (.cells #[c0,c1,c2,c3] e (0,0)))->Hid (w.grownBy w2 none)->wpList Tryz.prog ops Q rest (a.put o.dst (.slice (some ⟨w.heap.size,0,none⟩) 4 4)) w2):wpList Tryz.prog ops Q (o::rest) a w:=by
 obtain ⟨i,z,hi,e1,e2,hz,hz1,hz2⟩:=EH (P:=Tryz.prog) sz53 zc53 by53 rfl;refine wpList_make_full w hg (.tmp 29) (.tmp 29) 52 hop w.heap.size 53 i z 1 ze hi hz e1 .i64 .i64 4 4 4 hl hl rfl rfl (by rw [e2];decide) zc (uZ _) ?_;intro w2 hown hgr;obtain ⟨hlen,hrest⟩:=hown
 rcases hrest with ⟨h0,_⟩ | ⟨g,cap2,cur,h0,_,hB,hnc,hcm,hcs,htk⟩
 ·cases h0
 cases h0;obtain ⟨l⟩:=cur
 match l,hcs with
 | [c0,c1,c2,c3],_=>exact hK w2 c0 c1 c2 c3 _ (show _=_ from hB) (show World.grownBy _ _ _ from hgr)
theorem RW {w:World} {g k:Nat} {cs:Array Value} {t:TypeId} {v:Value} (h:Hid (w.heap[g]? = some (.cells cs t (0,0)))) (hv:cs[k]? = some v):w.drew.cell? (Addr.add ⟨g,0,none⟩ k)=some v:=by
 have h:w.drew.heap[g]? = _:=h.out
 by_cases hk:k=0
 ·subst hk;simpa [World.cell?,Addr.add,h] using hv
 ·simpa [World.cell?,Addr.add,h,hk] using hv
theorem Pb {w w2:World} (h:Hid (w.grownBy w2 none)):Hid (w.grownBy w2.drew none):=show World.grownBy _ _ _ from ⟨h.out.os,h.out.tape,h.out.output,h.out.size,h.out.block⟩
theorem Vm {w w0:World} {ty:TypeId} {g off dLen dCap:Nat} {ad:Addr} {sLen sCap:Nat} (cur:List Value) {t:TypeId} (cs:List Value) {out:Array Value} (ho:(cur.take off++(cs++cur.drop (off+cs.length))).toArray=out) (hg:Hid (w.heap[g]? = some (.cells cur.toArray t (0,0)))) (hn:cs.length=Nat.min sLen dLen)
  (hsrc:∀j v,cs[j]? = some v->w.cell? (ad.add j)=some v) (hfit:off+cs.length<=cur.length) (h1:∀v ∈ cs,v.oneCell'=true) (hb:Hid (w0.grownBy w none)) (hgw:w0.heap.size<=g) :
  ∃w3,(Builtin.copy_ #[52,52] ty #[.slice (some ⟨g,off,none⟩) dLen dCap,.slice (some ad) sLen sCap]).run Tryz.prog w=.ok (goInt cs.length) w3/\Hid (w3.heap[g]? = some (.cells out t (0,0)))/\Hid (w0.grownBy w3 none):=by
 refine ⟨_,run_copy_row (P:=Tryz.prog) w 52 52 ty 53 g off dLen dCap ad sLen sCap cur.toArray t cs ze ze hg.out hn hsrc (by simpa using hfit) h1,(show _=_ from ?_),(show World.grownBy _ _ _ from ?_)⟩
 ·rw [←ho];simpa using setRow_heap w g _ _ t _ hg.out
 ·have hb:=hb.out;exact ⟨hb.os,hb.tape,hb.output,by simpa [World.setRow] using hb.size,λk hk hne=>by rw [setRow_other w g k _ zb];exact hb.block k hk hne⟩
set_option maxRecDepth 100000 in
set_option maxHeartbeats 1000000 in
theorem UW (w:World):Calls Tryz.prog 184 #[.int .u64 1,.int .u64 4] w λe w'=>e=.returned (.tuple #[.int .u64 0,.int .u64 4])/\w'=w:=by
 go_enter Tryz.func184,Tryz.ntmps184
 go_wp2_with fail
 go_ret2
 exact ⟨rfl,rfl⟩
set_option maxRecDepth 100000 in
set_option maxHeartbeats 1000000 in
theorem zab (w:World):Calls Tryz.prog 109 #[.int .u64 1,.int .u64 4] w λe w'=>e=.returned (.tuple #[.int .u64 0,.int .u64 4])/\w'=w:=by
 go_enter Tryz.func109,Tryz.ntmps109
 go_wp2_with fail
 refine (UW w).mono ?_;rintro e w' ⟨rfl,rfl⟩
 go_wp2_with fail
 go_ret2
 exact ⟨rfl,rfl⟩
set_option maxRecDepth 100000 in
set_option maxHeartbeats 1000000 in
theorem ZA (x:Int) (b off cap:Nat) (w:World) (hx:Hid (w.cell? ⟨b,off,none⟩=some (.int .u32 x))):Calls Tryz.prog 55 #[.slice (some ⟨b,off,none⟩) 1 cap,.int .i64 4] w λe w'=>e=.returned (.slice (some ⟨w.heap.size,0,none⟩) 4 4)/\∃t,w'.heap[w.heap.size]? = some (.cells #[.int .u32 x,.int .u32 x,.int .u32 x,.int .u32 x] t (0,0))/\w.grownBy w' none:=by
 go_enter Tryz.func55,Tryz.ntmps55
 go_wp2_with fail
 refine (zab w).mono ?_;rintro e w' ⟨rfl,rfl⟩
 go_wp2_with (refine make4 rfl rfl rfl ?_)
 intro w2 c0 c1 c2 c3 e hB hg
 have hx2:Hid (w2.cell? ⟨b,off,none⟩=some (.int .u32 x)):=by
  have h1:=hx.out
  have hlt:b<w'.heap.size:=by
   rcases xdz b w'.heap.size with h | h
   ·exact h
   ·unfold World.cell? at h1;rw [Array.getElem?_eq_none h] at h1;cases h1
  refine show _=_ from ?_;rw [←h1];unfold World.cell?;rw [hg.out.block b hlt zd]
 clear hx
 go_wp2_with fail
 have hrun:∀ty,∃w3,(Builtin.copy_ #[52,52] ty #[.slice (some ⟨w'.heap.size,0,none⟩) 4 4,.slice (some ⟨b,off,none⟩) 1 cap]).run Tryz.prog w2=.ok (.int .i64 1) w3/\Hid (w3.heap[w'.heap.size]? = some (.cells #[.int .u32 x,c1,c2,c3] e (0,0)))/\Hid (w'.grownBy w3 none):=λty=>Vm [c0,c1,c2,c3] [.int .u32 x] rfl hB rfl (by intro j v hj;cases j with | zero=>injection hj with hj;subst hj;exact hx2.out | succ j=>cases hj) zd (by intro v hv;rw [zU.1 hv];rfl) hg (uZ _);obtain ⟨w3,hrun3,hB3,hg3⟩:=hrun 3;rw [hrun3];clear hrun hrun3 hB hg hx2
 go_wp2_with fail
 obtain ⟨w4,hrun4,hB4,hg4⟩:=Vm (w:=w3.drew) (w0:=w') (ty:=3) (g:=w'.heap.size) (off:=1) (dLen:=3) (dCap:=3) (ad:=⟨w'.heap.size,0,none⟩) (sLen:=1) (sCap:=4) (t:=e) [.int .u32 x,c1,c2,c3] [.int .u32 x] rfl (show _=_ from hB3.out) rfl (by intro j v hj;cases j with | zero=>injection hj with hj;subst hj;exact RW hB3 rfl | succ j=>cases hj) zd (by intro v hv;rw [zU.1 hv];rfl) (Pb hg3) (uZ _);obtain ⟨w5,hrun5,hB5,hg5⟩:=Vm (w:=w4.drew) (w0:=w') (ty:=3) (g:=w'.heap.size) (off:=2) (dLen:=2) (dCap:=2) (ad:=⟨w'.heap.size,0,none⟩) (sLen:=2) (sCap:=4) (t:=e) [.int .u32 x,.int .u32 x,c2,c3] [.int .u32 x,.int .u32 x] rfl (show _=_ from hB4.out) rfl (by intro j v hj;match j with | 0=>injection hj with hj;subst hj;exact RW hB4 rfl | 1=>injection hj with hj;subst hj;exact RW hB4 rfl | j+2=>cases hj) zd (by intro v hv;simp only [Di,St,or_false,or_self] at hv;rw [hv];rfl) (Pb hg4) (uZ _);clear hB3 hg3 hB4 hg4;have mixed:Tryz.prog.follows .mixedOrders=true:=ze
 refine wp_loop_rounds 3 ?_;rw [rounds_succ]
 go_wp2_with fail
 go_region_o
 all_goals go_wp2_with fail
 all_goals rw [rounds_succ]
 all_goals go_wp2_with fail
 all_goals go_region_o
 all_goals go_wp2_with fail
 all_goals rw [rounds_succ]
 all_goals go_wp2_with fail
 all_goals go_ret
 all_goals exact ⟨rfl,e,hB5.out,hg5.out⟩
theorem Xt {a0:List Int} {a1:Int} {r:List Int} (h:(if a0.length=1/\a1=4 then some (a0++a0++a0++a0) else none)=some r) (q:Pa) (m:M) (vs:List V) (hv:vs.map V.weak1=[.list .none (a0.map (cI .u32)),.lit (.int .i64 a1)]) :
  SC Tryz.prog 55 vs q m (λv m'=>v=.list .exact (r.map (cI .u32))/\m'=m):=by
 split at h
 ·rename_i hc;obtain ⟨h1,rfl⟩:=hc
  match a0,h1 with
  | [x],_=>
    cases h;refine SC.weak ?_;rw [hv];intro c xs w hR hx hf;obtain ⟨u,us,rfl,k1,k2⟩:=hx.uncons;obtain ⟨y,rfl,k3⟩:=k2.inv_one;obtain rfl:=k3.inv_lit;obtain ⟨a,cap,es,sz,rfl,g1,g2,g3,g4,g5,g6,g7,g8,g9⟩:=k1.inv_list;obtain ⟨b,off,rfl,hl⟩:=g7 (by rw [g1.len];exact Nat.one_pos);obtain ⟨z,rfl,g1⟩:=g1.inv_one;obtain rfl:=g1.inv_lit;have hcell:=hR.com b off _ (hl 0 _ rfl);refine .inl ⟨Tryz.call55 _ w,?_⟩;refine (ZA x b off cap w (show _=_ from hcell)).mono λe w' ⟨he,t,hB,hg⟩=>?_
    obtain ⟨c',r1,r2,r3⟩:=QJ (q:=q) hR hg (rows:=[[.lit (.int .u32 x)],[.lit (.int .u32 x)],[.lit (.int .u32 x)],[.lit (.int .u32 x)]]) (es:=[.int .u32 x,.int .u32 x,.int .u32 x,.int .u32 x]) (sz:=1) (b:=w.heap.size) (cap:=4) (uZ _) (Array.getElem?_eq_some_iff.1 hB).1 (λj v hj=>by
     simp only [World.cell?,hB];simpa using hj) (.lit (.lit (.lit (.lit .nil)))) (by intro r hr;simp only [Di,St,or_false,or_self] at hr;rw [hr];rfl) zc (by intro v hv;simp only [Di,St,or_false,or_self] at hv;rw [hv];rfl) zc rfl
    exact ⟨_,c',_,m,he,⟨rfl,rfl⟩,r1,r2,r3⟩
 ·cases h
set_option linter.all false
set_option maxRecDepth 10000
def FH (l:List Int) (off:Nat) (cs:List V):Nat->List V
 | 0=>cs
 | k+1=>(FH l off cs k).set (off+k) (.lit (.int .i64 (l[k]?.getD (-1))))
theorem MG {l:List Int} {off:Nat} {cs:List V}:∀k,(FH l off cs k).length=cs.length
 | 0=>rfl
 | k+1=>by rw [FH,Db,MG k]
theorem Wt {id:Pa} {off n cap:Nat} {l:List Int} {cs:List V} {q:Pa} {m:M} (hb:m.blk id=some cs) (hq:¬ q <:+ id) (hn:off+n<=cs.length) (hn2:n<=1000) :
  SC Tryz.prog 321 [.arr id off n cap,.list .none (l.map (cI .i64))] q m (λv m'=>v=.tup []/\m'=m.set id (FH l off cs n)):=by
 refine SC_w Tryz.func321 rfl (λxs w=>Tryz.call321 xs w) Tryz.ntmps321 ze Tryz.results321 ?_;have hs:∀(m2:M) cs',m.back q (m2.set id cs')=(m.back q m2).set id cs':=λm2 cs'=>gP hq
 repeat refine aR ?_
 refine dL λK hK=>?_;simp only [go_sem,seval];apply hK;refine dY ?_;refine QU (λE' m'=>∃i:Nat,i<=n/\E' 7=.lit (.int .i64 i)/\m'.blk id=some (FH l off cs i)/\m.back q m'=m.set id (FH l off cs i)) (λE' _=>n - VW (E' 7)) ⟨0,zb,?_,?_,?_⟩ ?_
 ·simp only [go_sem,↓reduceIte]
 ·exact hb
 ·rw [cN,FH,Jh hb]
 rintro i E' m' ⟨j,hj,e7,hb2,hm⟩ hfr;have e6:E' 6=.lit (.int .i64 n):=(hfr 6 rfl).trans (by simp only [go_sem,seval]);have e0:E' 0=.arr id off n cap:=(hfr 0 rfl).trans (by simp only [go_sem,seval]);have e1:E' 1=.list .none (l.map (cI .i64)):=(hfr 1 rfl).trans (by simp only [go_sem,seval]);clear hfr hK
 repeat refine aR ?_
 refine dL λK hK=>?_;simp only [go_sem,e7,e6];apply hK
 repeat refine aR ?_
 refine WI _ (by simp only [go_sem,↓reduceIte];first | done | rfl) (λhc=>?_) (λhc=>?_)
 ·refine dA ?_;simp only [aV];have hjl:j<n:=by simpa using hc
  repeat refine aR ?_
  refine dY ?_
  repeat refine aR ?_
  refine dL λK hK=>?_;simp only [go_sem,seval,e7];apply hK
  repeat refine aR ?_
  refine dL λK hK=>?_;simp only [go_sem,seval,true_and,qB,sY,e0,hb2];refine ⟨zb,by rw [MG];omega,?_⟩;apply hK
  repeat refine aR ?_
  refine dL λK hK=>?_;simp only [go_sem,seval,Kn,e1,Kn];apply hK;refine SW_join (λE2 m2=>∃m3,m2=m3.set id (FH l off cs (j+1))/\m.back q m3=m.back q m') ?_ ?_
  ·refine WI _ (by simp only [go_sem,↓reduceIte];first | done | rfl) (λhc=>?_) (λhc=>?_)
   ·have hjl2:j<l.length:=by simpa using hc
    obtain ⟨x,hx⟩:∃x,l[j]? = some x:=⟨l[j],yN hjl2⟩;have hf:FH l off cs (j+1)=(FH l off cs j).set (off+j) (.lit (.int .i64 x)):=by rw [FH,hx];rfl
    repeat refine aR ?_
    refine dL λK hK=>?_;simp only [go_sem,seval,PJ,true_and,DH,qB,sY,Kn,KM,implies_true,e0,e1,Db,hx,PJ];refine ⟨zb,zb,by rw [MG];omega,?_⟩;apply hK;exact ⟨m',by rw [List.set_set,hf],rfl⟩
   ·have hjl2:l.length<=j:=by simpa using hc
    refine dA ?_;simp only [aV];exact ⟨m',by rw [FH,VH hjl2];rfl,rfl⟩
  ·rintro k2 E2 m2 ⟨m3,rfl,hm3⟩ hfr;have e72:E2 7=.lit (.int .i64 j):=(hfr 7 rfl).trans (by simp only [go_sem,seval,e7])
   try simp only [aV,cR]
   repeat refine aR ?_
   refine dL λK hK=>?_;simp only [go_sem,↓reduceIte,e72];apply hK;refine ⟨⟨j+1,zb,?_,?_,?_⟩,?_⟩
   ·simp only [go_sem,↓reduceIte];have:IntKind.i64.wrap ((j:Int)+1)=((j+1:Nat):Int):=by rw [IntKind.wrap_i64];omega
    rw [this]
   ·simp only [go_sem,↓reduceIte]
   ·rw [hs,hm3,hm];simp only [go_sem]
   ·simp only [go_sem,↓reduceIte,e7];rw [IntKind.wrap_i64];simp only [VW];omega
 ·have hjn:j=n:=by have:n<=j:=(by simpa using hc);omega
  subst hjn;refine lM ?_;simp only [seval,eH,dN];simp only [go_sem,Dh,true_and];exact ⟨.inr trivial,hm⟩
theorem slU_p {P:Program} {n e off s:Nat} {id:Pa} {C:V->Prop} (hs:cC P e=some s) (hn:0<n) (h2:n<=1073741824):SY P (.ar n e) (.ptr id off) none none C=C (.arr id off n n):=by
 unfold SY;simp only [mX,hs];simp [hn,h2]
theorem make_sc {a0 a1:Int} {a2 a3:List Int} {r:bY} (h:some (Jx a0 a1 a2 a3)=some r) (q:Pa) (m:M) (vs:List V) (hv:vs.map V.weak1=[.lit (.int .i64 a0),.lit (.int .u32 a1),.list .none (a2.map (cI .i64)),.list .none (a3.map (cI .i64))]) :
  SC Tryz.prog 290 vs q m (λv m'=>v=.agg (bY.C r)/\m'=m):=by
 cases h;refine SC.weak ?_;rw [hv];refine SC_w Tryz.func290 rfl (λxs w=>Tryz.call290 xs w) Tryz.ntmps290 ze Tryz.results290 ?_
 repeat refine aR ?_
 refine dL λK hK=>?_;simp only [go_sem,yV,Dh];apply hK
 repeat refine aR ?_
 refine dL λK hK=>?_;simp only [go_sem,seval,yV,Dh,AE,Fu,Ri,true_and,and_true,Sr,DH,SE,Uk,Pw,SD,qB,sY,xeg,xdy];apply hK
 repeat refine aR ?_
 refine dL λK hK=>?_;simp only [go_sem,seval,yV,Dh,Option.map_none,AE,Fu,slU_p (P:=Tryz.prog) Xc]
 have nq:∀i j:Nat,i ≠ j->¬ (i::q) <:+ (j::q):=λi j h k=>by
  have h2:=k.eq_of_length rfl
  injection h2 with h2;exact h h2
 refine SC.mono (Wt (cs:=[.lit (.int .i64 a0),.lit (.int .i64 0),.lit (.int .i64 0),.lit (.int .i64 0),.lit (.int .i64 0),.lit (.int .i64 0),.lit (.int .i64 0),.lit (.int .u32 a1)]) (by simp only [go_sem,↓reduceIte]) (nq 9 4 zc) zd zc) ?_;rintro _ _ ⟨rfl,rfl⟩;simp only [go_sem,seval,Pw,SD,FH,SD,Pw,Qp];apply hK
 repeat refine aR ?_
 refine dL λK hK=>?_;simp only [go_sem,seval,yV,Dh,Option.map_none,AE,Fu,slU_p (P:=Tryz.prog) Xc];refine SC.mono (Wt (cs:=[.lit (.int .i64 a0),.lit (.int .i64 (a2[0]?.getD (-1))),.lit (.int .i64 (a2[1]?.getD (-1))),.lit (.int .i64 0),.lit (.int .i64 0),.lit (.int .i64 0),.lit (.int .i64 0),.lit (.int .u32 a1)]) (by simp only [go_sem,↓reduceIte]) (nq 13 4 zc) zd zc) ?_;rintro _ _ ⟨rfl,rfl⟩;simp only [go_sem,seval,Pw,SD,FH,SD,Pw,Qp];apply hK
 repeat refine aR ?_
 refine dL λK hK=>?_;simp only [go_sem,seval,yV,Dh,true_and,and_true,DH,SE,Uk,Pw,SD,qB,sY];apply hK;refine dI ?_
 try simp only [reduceCtorEq]
 refine ⟨.inl trivial,?_⟩;simp only [go_sem,seval,yV,Dh,true_and,DH,SE,Uk,qB,sY,bY.C_eq,Jx];have sf:∀i:Nat,q <:+ i::q:=λi=>⟨[i],rfl⟩;rw [cJ (sf 0),cJ (sf 4),cJ (sf 0),cN]
