/-
 A block that owns a growing list: its version is told by the list's length.
-/
import Derived.Test.YtldnmmnnohnpkaaGreatDoorFtH1
namespace Go.Proofs.YtldnmmnnohnpkaaGreatDoor.Abs
open Go.RowKit
@[go_sem] theorem lapp_cons {α:Type} {a:α} {l k:List α}:List.append (a::l) k=a::List.append l k:=_root_.id rfl
@[go_sem] theorem lapp_nil {α:Type} {k:List α}:List.append [] k=k:=_root_.id rfl
def M.setv (m:M) (p:Pa) (off:Nat) (cs:List V) (n:Nat):M:=m.ck p cs m.hp (fun o=>if o=off then n else m.ver p o)
section
variable {m:M} {p q:Pa} {off n:Nat} {cs:List V}
@[go_sem] theorem setv_blk {i:Pa}:(m.setv p off cs n).blk i=if i=p then some cs else m.blk i:=_root_.id rfl
@[go_sem] theorem zku {i:Pa} {o:Nat}:(m.setv p off cs n).ver i o=if i=p/\o=off then n else m.ver i o:=by
 show (if i=p then (fun o=>if o=off then n else m.ver p o) else m.ver i) o=_
 by_cases e:i=p/\o=off
 ·rw [if_pos e,if_pos e.1];exact if_pos e.2
 ·rw [if_neg e]
  by_cases e1:i=p
  ·rw [if_pos e1,e1];exact if_neg fun h=>e ⟨e1,h⟩
  ·rw [if_neg e1]
@[go_sem] theorem setv_tok:(m.setv p off cs n).tok=m.tok:=_root_.id rfl
@[go_sem] theorem setv_gl:(m.setv p off cs n).gl=m.gl:=_root_.id rfl
theorem zfx {m2:M} (hq:¬ q <:+ p):m.back q (m2.setv p off cs n)=(m.back q m2).setv p off cs n:=by
 have hs:¬ q.isSuffixOf p=true:=fun e=>hq (List.isSuffixOf_iff_suffix.1 e);unfold M.setv;rw [back_ck hq]
 congr 1
 funext o
 show _=if o=off then n else (if q.isSuffixOf p then m.ver p else m2.ver p) o;rw [if_neg hs]
theorem zl8 {m2:M} (hq:q <:+ p):m.back q (m2.setv p off cs n)=m.back q m2:=by
 have hs:q.isSuffixOf p=true:=List.isSuffixOf_iff_suffix.2 hq;refine M.ext_hp (funext fun i=>?_) (funext fun i=>?_) rfl rfl rfl
 ·show (if q.isSuffixOf i then m.blk i else if i=p then some cs else m2.blk i)=if q.isSuffixOf i then m.blk i else m2.blk i
  by_cases e:i=p
  ·subst e;rw [if_pos hs,if_pos hs]
  ·rw [if_neg e]
 ·show (if q.isSuffixOf i then m.ver i else if i=p then _ else m2.ver i)=if q.isSuffixOf i then m.ver i else m2.ver i
  by_cases e:i=p
  ·subst e;rw [if_pos hs,if_pos hs]
  ·rw [if_neg e]
theorem zpb {m2:M} (hq:¬ q <:+ p):m.back q (m2.bump p off)=(m.back q m2).bump p off:=by
 have hs:¬ q.isSuffixOf p=true:=fun e=>hq (List.isSuffixOf_iff_suffix.1 e);refine M.ext_hp rfl (funext fun i=>funext fun o=>?_) rfl rfl rfl;show (if q.isSuffixOf i then m.ver i else fun o=>if i=p/\o=off then m2.ver i o+1 else m2.ver i o) o=if i=p/\o=off then (if q.isSuffixOf i then m.ver i else m2.ver i) o+1 else (if q.isSuffixOf i then m.ver i else m2.ver i) o
 by_cases e:q.isSuffixOf i=true
 ·rw [if_pos e,if_pos e,if_neg];rintro ⟨rfl,_⟩;exact hs e
 ·rw [if_neg e,if_neg e]
@[go_sem] theorem setv_setv {cs':List V} {n':Nat}:(m.setv p off cs n).setv p off cs' n'=m.setv p off cs' n':=by
 show (m.ck p cs m.hp _).ck p cs' m.hp _=_;rw [ck_ck];unfold M.setv
 congr 1
 funext o
 show (if o=off then n' else (if p=p then (fun o=>if o=off then n else m.ver p o) else m.ver p) o)=_;rw [if_pos rfl]
 by_cases e:o=off
 ·rw [if_pos e,if_pos e]
 ·rw [if_neg e];show (if o=off then n else m.ver p o)=if o=off then n' else m.ver p o
  rw [if_neg e,if_neg e]
@[go_sem] theorem set_setv {cs':List V}:(m.setv p off cs n).set p cs'=m.setv p off cs' n:=by
 rw [zkv];show (m.ck p cs m.hp _).ck p cs' m.hp ((m.ck p cs m.hp _).ver p)=_;rw [ck_ck];unfold M.setv
 congr 1
 show (if p=p then _ else _)=_;rw [if_pos rfl]
@[go_sem] theorem setv_set {cs':List V}:(m.set p cs').setv p off cs n=m.setv p off cs n:=by
 rw [zkv];unfold M.setv;show (m.ck p cs' m.hp (m.ver p)).ck p cs m.hp _=_;rw [ck_ck]
 congr 1
 funext o
 show (if o=off then n else (if p=p then m.ver p else m.ver p) o)=_;rw [if_pos rfl]
theorem zkS (h:m.ver p off=n):m.setv p off cs n=m.set p cs:=by
 rw [zkv];unfold M.setv
 congr 1
 funext o
 by_cases e:o=off
 ·rw [if_pos e,e,h]
 ·rw [if_neg e]
theorem set_bump (h:m.ver p off=n):(m.set p cs).bump p off=m.setv p off cs (n+1):=by
 rw [zkv];refine M.ext_hp rfl (funext fun i=>funext fun o=>?_) rfl rfl rfl;show (if i=p/\o=off then (if i=p then m.ver p else m.ver i) o+1 else (if i=p then m.ver p else m.ver i) o)=(if i=p then (fun o=>if o=off then n+1 else m.ver p o) else m.ver i) o
 by_cases e:i=p
 ·subst e;rw [if_pos rfl,if_pos rfl]
  by_cases e:o=off
  ·subst e;rw [if_pos ⟨rfl,rfl⟩,if_pos rfl,h]
  ·rw [if_neg fun h=>e h.2,if_neg e]
 ·rw [if_neg e,if_neg e,if_neg fun h=>e h.1]
end
theorem Rep.setv {c:Conc} {m:M} {w:World} (h:Rep c m w) {id:Pa} {off n:Nat} {cs:List V} {v0:V} (hb:m.blk id=some cs) (ho:cs[off]? = some v0) (hu:∀s,v0.ld s=v0) (hns:∀rows,v0 ≠ .list .self rows) (hn:m.ver id off<=n):Rep c (m.setv id off cs n) w/\∀q,Ext q c m w c (m.setv id off cs n) w:=by
 have hblk:∀i,(m.setv id off cs n).blk i=m.blk i:=by
  intro i;rw [setv_blk]
  by_cases e:i=id
  ·rw [if_pos e,e,hb]
  ·rw [if_neg e]
 have hlive:∀s,zcJ (m.setv id off cs n) s=true->zcJ m s=true:=by
  intro s hl;cases s with
  | anon i j=>exact hl
  | priv i=>exact hl
  | cell i o v=>
    obtain ⟨h1,vs,rows,h2,h3⟩:=zff hl;rw [hblk] at h2;refine zfj ?_ h2 h3;rw [zku,if_neg] at h1
    ·exact h1
    ·rintro ⟨rfl,rfl⟩;rw [hb] at h2;injection h2 with h2;subst h2
     rw [ho] at h3;injection h3 with h3;exact hns _ h3
 have hown:∀b,zcY c (m.setv id off cs n) b->zcY c m b:=by
  rintro b (⟨i,hi,hr⟩ | ⟨s,cap,sz,len,hl,hk⟩)
  ·exact .inl ⟨i,by rw [←hblk];exact hi,hr⟩
  ·exact .inr ⟨s,cap,sz,len,hlive s hl,hk⟩
 have hid:∀ {i:Pa},zb8 c i->i ≠ id:=by
  rintro i hf rfl;rw [h.fresh_blk hf] at hb;cases hb
 have hver:∀i o,m.ver i o<=(m.setv id off cs n).ver i o:=by
  intro i o;rw [zku]
  split
  ·rename_i e;rw [e.1,e.2];exact hn
  ·exact Nat.le_refl _
 refine ⟨⟨h.com,fun i vs hv=>?_,fun i i' b hi hi'=>h.inj i i' b (by rwa [hblk] at hi) (by rwa [hblk] at hi'),fun s b cap sz len hl hk=>?_,fun s s' b cap sz len cap' sz' len' hl hl'=>h.ownInj s s' b cap sz len cap' sz' len' (hlive s hl) (hlive s' hl'),fun i o v hi hv=>h.ver i o v (by rwa [hblk] at hi) (Nat.lt_of_le_of_lt (hver i o) hv),h.gl,fun i hf=>⟨fun o=>?_,(h.ver0 i hf).2⟩,h.base,fun b hl=>⟨(h.lit b hl).1,(h.lit b hl).2.1,fun ho=>(h.lit b hl).2.2 (hown b ho)⟩,h.hpr⟩,fun q=>?_⟩
 ·rw [hblk] at hv;obtain ⟨b,ys,t,k1,k2,k3,k4,k5⟩:=h.blk i vs hv;refine ⟨b,ys,t,k1,k2,?_,k4,k5⟩
  have e:lds ((m.setv id off cs n).ver i) i vs=lds (m.ver i) i vs:=by
   unfold lds;apply List.ext_getElem?;intro j;rw [List.getElem?_mapIdx,List.getElem?_mapIdx]
   by_cases e:i=id/\j=off
   ·obtain ⟨rfl,rfl⟩:=e;rw [hb] at hv;injection hv with hv;subst hv
    rw [ho];show some (v0.ld _)=some (v0.ld _);rw [hu,hu]
   ·rw [zku,if_neg e]
  rw [e];exact k3
 ·obtain ⟨k1,k2,k3,k4⟩:=h.own s b cap sz len (hlive s hl) hk;exact ⟨k1,k2,fun i hi=>k3 i (by rwa [hblk] at hi),k4⟩
 ·rw [zku,if_neg fun e=>hid hf e.1];exact (h.ver0 i hf).1 o
 ·exact ⟨.refl c,rfl,rfl,rfl,Nat.le_refl _,fun _ _ _ _=>rfl,fun _ _ _ _=>rfl,fun b _ ho=>hown b ho,fun _ _ hf=>hf,fun i _ hb'=>⟨by rw [hblk];exact hb'.blk,hb'.anon,hb'.cell,fun o=>(zku.trans (if_neg fun e=>by rw [e.1] at hb';rw [hb'.blk] at hb;cases hb)).trans (hb'.ver o),hb'.tok⟩,fun _ _ hl=>hl⟩
theorem SW_setv {P:Program} {N:Nat} {π:Pa} {k:Nat} {E:Env} {m:M} {Q:Exit->Nat->Env->M->Prop} {x:Code} {id:Pa} {off n:Nat} {cs:List V} {v0:V} (hb:m.blk id=some cs) (ho:cs[off]? = some v0) (hu:∀s,v0.ld s=v0) (hns:∀rows,v0 ≠ .list .self rows) (hn:m.ver id off<=n) (h:SW P N π x k E (m.setv id off cs n) Q):SW P N π x k E m Q:=by
 intro hf c a w h1 h2 h3;obtain ⟨g1,g2⟩:=h1.setv hb ho hu hns hn;refine wp_mono (h hf c a w g1 h2 h3) fun e a' w' hp=>?_;exact hp.trans (g2 π) rfl (fun _ _=>rfl) (fun t ht=>⟨ht,ht⟩)
section
variable {P:Program} {c c':Conc} {m m':M} {w w':World} {q:Pa}
theorem Rep.backT2 {id id2:Pa} {j j2:Nat} (h:Rep c m w) (hf:zgc c q) (h':Rep c' m' w') (ht:m'.tok id j=true) (ht2:m'.tok id2 j2=true) :
  Rep c' (((m.back q m').tokset id j true).tokset id2 j2 true) w'/\∀b,zcY c' (((m.back q m').tokset id j true).tokset id2 j2 true) b->zcY c' m' b:=by
 have hsub:∀i,q.isSuffixOf i=true->m.blk i=none/\(∀off,m.ver i off=0)/\∀j,m.tok i j=false:=by
  intro i hi;have hf':=hf i (List.isSuffixOf_iff_suffix.1 hi);exact ⟨h.fresh_blk hf',(h.ver0 i hf').1,(h.ver0 i hf').2⟩
 have hblk:∀i,(((m.back q m').tokset id j true).tokset id2 j2 true).blk i=if q.isSuffixOf i then m.blk i else m'.blk i:=fun _=>rfl;have hver:∀i,(((m.back q m').tokset id j true).tokset id2 j2 true).ver i=if q.isSuffixOf i then m.ver i else m'.ver i:=fun _=>rfl;have htok:∀i k,(((m.back q m').tokset id j true).tokset id2 j2 true).tok i k=if i=id2/\k=j2 then true else if i=id/\k=j then true else (if q.isSuffixOf i then m.tok i else m'.tok i) k:=fun _ _=>rfl;refine h'.less (fun i vs hv=>?_) (fun i k hk=>?_) rfl (fun i hi=>⟨fun off=>?_,fun k=>?_⟩)
 ·rw [hblk] at hv;rw [hver];cases hs:q.isSuffixOf i with
  | true=>rw [if_pos hs,(hsub i hs).1] at hv;cases hv
  | false=>rw [if_neg (by simp [hs])] at hv ⊢;exact ⟨hv,rfl⟩
 ·rw [htok] at hk
  split at hk
  ·rename_i e;rw [e.1,e.2];exact ht2
  ·split at hk
   ·rename_i e;rw [e.1,e.2];exact ht
   ·split at hk
    ·rename_i hs;rw [(hsub i hs).2.2 k] at hk;cases hk
    ·exact hk
 ·rw [hver]
  split
  ·rename_i hs;exact (hsub i hs).2.1 off
  ·exact (h'.ver0 i hi).1 off
 ·rw [htok,if_neg,if_neg]
  ·split
   ·rename_i hs;exact (hsub i hs).2.2 k
   ·exact (h'.ver0 i hi).2 k
  ·rintro ⟨rfl,rfl⟩;rw [(h'.ver0 i hi).2 k] at ht;cases ht
  ·rintro ⟨rfl,rfl⟩;rw [(h'.ver0 i hi).2 k] at ht2;cases ht2
theorem SC_of2 {f:FuncId} {fn:Func} {body:Code} {args:List V} {mem:M} (hf:P.funcs[f]? = some fn) (hb:fn.body=some body) (hen:∀(xs:Array Value) (w:World),(callFunc f xs).run P w=.ok (.enter f xs) w)
  {N:Nat} (hN:fn.ntmps=N) (hfit:fits N body=true) {rs:List ResultVar} (hrs:fn.results.toList=rs) (F:Own->Own->V)
  (h:SW P N q body 0 (ini args) m fun e _ E' m'=>(e=.ret ∨ e=.normal)/\∃id j id2 j2,q <:+ id/\q <:+ id2/\(id=id2)=False/\(id2=id)=False/\m'.tok id j=true/\m'.tok id2 j2=true/\resV P E' m' rs (fun r=>r=F (.st (.anon id j)) (.st (.anon id2 j2)))/\m.back q m'=mem) :
  SC P f args q m fun v m'=>∃(id:Pa) (j:Nat) (id2:Pa) (j2:Nat),q <:+ id/\q <:+ id2/\(id=id2)=False/\(id2=id)=False/\v=F (.st (.anon id j)) (.st (.anon id2 j2))/\m'=(mem.tokset id j true).tokset id2 j2 true:=by
 intro c xs w h1 h2 h3;refine .inl ⟨hen _ w,?_⟩;subst hN hrs;have hini:=zp2 h2 fn.ntmps;refine calls_of_wp hf hb ?_;rw [List.size_toArray];refine wp_mono (h hfit c _ w h1 hini h3.sub) ?_;intro e a' w' hp;obtain ⟨c',k',E',m',⟨he,id,j,id2,j2,hid,hid2,hd,hd2,ht,ht2,hres,hm⟩,g2,g3,g4,g5,g6,g7⟩:=hp;obtain ⟨v,hC,x,hx,hv⟩:=zpK hres g2 g4;obtain ⟨hback,hown⟩:=h1.backT2 h3 g2 ht ht2
 have hX:Ext q c m w c' (((m.back q m').tokset id j true).tokset id2 j2 true) w':=by
  refine ⟨g3.le,g3.os,g3.tape,g3.output,g3.size,g3.heap,g3.book,fun b hb ho=>g3.own b hb (hown b ho),g3.fresh,fun i hi hb=>?_,g3.lits⟩;have hbl:=(g3.keep i hi hb).back (m:=m) hi;refine ⟨hbl.blk,hbl.anon,hbl.cell,hbl.ver,fun k=>?_⟩;show (if i=id2/\k=j2 then true else if i=id/\k=j then true else (m.back q m').tok i k)=false;rw [if_neg,if_neg]
  ·exact hbl.tok k
  ·rintro ⟨rfl,_⟩;exact hi hid
  ·rintro ⟨rfl,_⟩;exact hi hid2
 have hdone:a'.defers=[]/\∃v,(results fn a'.tmps).run P w'=.ok v w'/\zmC q c m w (fun v m'=>∃(id:Pa) (j:Nat) (id2:Pa) (j2:Nat),q <:+ id/\q <:+ id2/\(id=id2)=False/\(id2=id)=False/\v=F (.st (.anon id j)) (.st (.anon id2 j2))/\m'=(mem.tokset id j true).tokset id2 j2 true) (.returned v) w':=
  ⟨g6,x,hx,x,c',v,_,rfl,⟨id,j,id2,j2,hid,hid2,hd,hd2,hC,by rw [hm]⟩,hback,hX,hv⟩
 rcases he with rfl | rfl
 ·exact hdone
 ·exact hdone
end
theorem zjP {P:Program} {N:Nat} {π:Pa} {k:Nat} {E:Env} {m:M} {Q:Exit->Nat->Env->M->Prop} {x:Code} {o:Pa} {j:Nat} (ht:m.tok o j=true) (h:(∀i,k<=i->(o=i::π)=False/\(i::π=o)=False)->SW P N π x k E m Q):SW P N π x k E m Q:=
 SW_fresh fun hf=>h fun i hi=>by
  have hne:o ≠ i::π:=by
   rintro rfl;rw [(hf.at_ hi).2.2 j] at ht;cases ht
  exact ⟨eq_false hne,eq_false fun e=>hne e.symm⟩
end Go.Proofs.YtldnmmnnohnpkaaGreatDoor.Abs
