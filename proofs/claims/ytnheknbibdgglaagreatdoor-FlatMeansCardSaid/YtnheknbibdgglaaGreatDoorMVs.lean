import Derived.Test.YtnheknbibdgglaaGreatDoorMH1
namespace Go.Proofs.YtnheknbibdgglaaGreatDoor.Abs
open Go.RowKit
@[go_sem] theorem lapp_cons {α:Type} {a:α} {l k:List α}:List.append (a::l) k=a::List.append l k:=rI rfl
@[go_sem] theorem lapp_nil {α:Type} {k:List α}:List.append [] k=k:=rI rfl
def M.setv (m:M) (p:Pa) (off:Nat) (cs:List V) (n:Nat):M:=m.ck p cs m.hp (λo=>if o=off then n else m.ver p o)
section
variable {m:M} {p q:Pa} {off n:Nat} {cs:List V}
@[go_sem] theorem Jn {i:Pa}:(m.setv p off cs n).blk i=if i=p then some cs else m.blk i:=rI rfl
@[go_sem] theorem AN {i:Pa} {o:Nat}:(m.setv p off cs n).ver i o=if i=p/\o=off then n else m.ver i o:=by
 show (if i=p then (λo=>if o=off then n else m.ver p o) else m.ver i) o=_
 by_cases e:i=p/\o=off
 ·rw [cG e,cG e.1];exact cG e.2
 ·rw [bU e]
  by_cases e1:i=p
  ·rw [cG e1,e1];exact bU λh=>e ⟨e1,h⟩
  ·rw [bU e1]
@[go_sem] theorem setv_tok:(m.setv p off cs n).tok=m.tok:=rI rfl
@[go_sem] theorem setv_gl:(m.setv p off cs n).gl=m.gl:=rI rfl
@[go_sem] theorem setv_hp:(m.setv p off cs n).hp=m.hp:=rI rfl
theorem dR {m2:M} (hq:¬ q <:+ p):m.back q (m2.setv p off cs n)=(m.back q m2).setv p off cs n:=by
 have hs:¬ q.isSuffixOf p=true:=λe=>hq (GS.1 e);unfold M.setv;rw [back_ck hq]
 congr 1
 funext o
 show _=if o=off then n else (if q.isSuffixOf p then m.ver p else m2.ver p) o;rw [bU hs]
theorem JZ {m2:M} (hq:q <:+ p):m.back q (m2.setv p off cs n)=m.back q m2:=by
 have hs:q.isSuffixOf p=true:=GS.2 hq;refine M.ext_hp (funext λi=>?_) (funext λi=>?_) rfl rfl rfl
 ·show (if q.isSuffixOf i then m.blk i else if i=p then some cs else m2.blk i)=if q.isSuffixOf i then m.blk i else m2.blk i
  by_cases e:i=p
  ·subst e;rw [cG hs,cG hs]
  ·rw [bU e]
 ·show (if q.isSuffixOf i then m.ver i else if i=p then _ else m2.ver i)=if q.isSuffixOf i then m.ver i else m2.ver i
  by_cases e:i=p
  ·subst e;rw [cG hs,cG hs]
  ·rw [bU e]
theorem Ka {m2:M} (hq:¬ q <:+ p):m.back q (m2.bump p off)=(m.back q m2).bump p off:=by
 have hs:¬ q.isSuffixOf p=true:=λe=>hq (GS.1 e);refine M.ext_hp rfl (funext λi=>funext λo=>?_) rfl rfl rfl;show (if q.isSuffixOf i then m.ver i else λo=>if i=p/\o=off then m2.ver i o+1 else m2.ver i o) o=if i=p/\o=off then (if q.isSuffixOf i then m.ver i else m2.ver i) o+1 else (if q.isSuffixOf i then m.ver i else m2.ver i) o
 by_cases e:q.isSuffixOf i=true
 ·rw [cG e,cG e,bU];rintro ⟨rfl,_⟩;exact hs e
 ·rw [bU e,bU e]
@[go_sem] theorem setv_setv {cs':List V} {n':Nat}:(m.setv p off cs n).setv p off cs' n'=m.setv p off cs' n':=by
 show (m.ck p cs m.hp _).ck p cs' m.hp _=_;rw [UU];unfold M.setv
 congr 1
 funext o
 show (if o=off then n' else (if p=p then (λo=>if o=off then n else m.ver p o) else m.ver p) o)=_;rw [cG rfl]
 by_cases e:o=off
 ·rw [cG e,cG e]
 ·rw [bU e];show (if o=off then n else m.ver p o)=if o=off then n' else m.ver p o
  rw [bU e,bU e]
@[go_sem] theorem set_setv {cs':List V}:(m.setv p off cs n).set p cs'=m.setv p off cs' n:=by
 rw [FQ];show (m.ck p cs m.hp _).ck p cs' m.hp ((m.ck p cs m.hp _).ver p)=_;rw [UU];unfold M.setv
 congr 1
 show (if p=p then _ else _)=_;rw [cG rfl]
@[go_sem] theorem setv_set {cs':List V}:(m.set p cs').setv p off cs n=m.setv p off cs n:=by
 rw [FQ];unfold M.setv;show (m.ck p cs' m.hp (m.ver p)).ck p cs m.hp _=_;rw [UU]
 congr 1
 funext o
 show (if o=off then n else (if p=p then m.ver p else m.ver p) o)=_;rw [cG rfl]
theorem jY (h:m.ver p off=n):m.setv p off cs n=m.set p cs:=by
 rw [FQ];unfold M.setv
 congr 1
 funext o
 by_cases e:o=off
 ·rw [cG e,e,h]
 ·rw [bU e]
theorem Ni (h:m.ver p off=n):(m.set p cs).bump p off=m.setv p off cs (n+1):=by
 rw [FQ];refine M.ext_hp rfl (funext λi=>funext λo=>?_) rfl rfl rfl;show (if i=p/\o=off then (if i=p then m.ver p else m.ver i) o+1 else (if i=p then m.ver p else m.ver i) o)=(if i=p then (λo=>if o=off then n+1 else m.ver p o) else m.ver i) o
 by_cases e:i=p
 ·subst e;rw [cG rfl,cG rfl]
  by_cases e:o=off
  ·subst e;rw [cG ⟨rfl,rfl⟩,cG rfl,h]
  ·rw [bU λh=>e h.2,bU e]
 ·rw [bU e,bU e,bU λh=>e h.1]
end
theorem fZ.setv {c:Conc} {m:M} {w:World} (h:fZ c m w) {id:Pa} {off n:Nat} {cs:List V} {v0:V} (hb:m.blk id=some cs) (ho:cs[off]? = some v0) (hu:∀s,v0.ld s=v0) (hns:∀rows,v0 ≠ .list .self rows) (hn:m.ver id off<=n):fZ c (m.setv id off cs n) w/\∀q,oB q c m w c (m.setv id off cs n) w:=by
 have hblk:∀i,(m.setv id off cs n).blk i=m.blk i:=by
  intro i;rw [Jn]
  by_cases e:i=id
  ·rw [cG e,e,hb]
  ·rw [bU e]
 have hlive:∀s,fX (m.setv id off cs n) s=true->fX m s=true:=by
  intro s hl;cases s with
  | anon i j=>exact hl
  | priv i=>exact hl
  | cell i o v=>
    obtain ⟨h1,vs,rows,h2,h3⟩:=qY hl;rw [hblk] at h2;refine qX ?_ h2 h3;rw [AN,bU] at h1
    ·exact h1
    ·rintro ⟨rfl,rfl⟩;rw [hb] at h2;injection h2 with h2;subst h2
     rw [ho] at h3;injection h3 with h3;exact hns _ h3
 have hown:∀b,fC c (m.setv id off cs n) b->fC c m b:=by
  rintro b (⟨i,hi,hr⟩ | ⟨s,cap,sz,len,hl,hk⟩)
  ·exact .inl ⟨i,by rw [←hblk];exact hi,hr⟩
  ·exact .inr ⟨s,cap,sz,len,hlive s hl,hk⟩
 have eZ:∀ {i:Pa},fJ c i->i ≠ id:=by
  rintro i hf rfl;rw [h.fresh_blk hf] at hb;cases hb
 have hver:∀i o,m.ver i o<=(m.setv id off cs n).ver i o:=by
  intro i o;rw [AN]
  split
  ·rename_i e;rw [e.1,e.2];exact hn
  ·exact tW _
 refine ⟨⟨h.com,λi vs hv=>?_,λi i' b hi hi'=>h.inj i i' b (by rwa [hblk] at hi) (by rwa [hblk] at hi'),λs b cap sz len hl hk=>?_,λs s' b cap sz len cap' sz' len' hl hl'=>h.ownInj s s' b cap sz len cap' sz' len' (hlive s hl) (hlive s' hl'),λi o v hi hv=>h.ver i o v (by rwa [hblk] at hi) (Nat.lt_of_le_of_lt (hver i o) hv),h.gl,λi hf=>⟨λo=>?_,(h.ver0 i hf).2⟩,h.base,λb hl=>⟨(h.lit b hl).1,(h.lit b hl).2.1,λho=>(h.lit b hl).2.2 (hown b ho)⟩,h.hpr⟩,λq=>?_⟩
 ·rw [hblk] at hv;obtain ⟨b,ys,t,k1,k2,k3,k4,k5⟩:=h.blk i vs hv;refine ⟨b,ys,t,k1,k2,?_,k4,k5⟩
  have e:EM ((m.setv id off cs n).ver i) i vs=EM (m.ver i) i vs:=by
   unfold EM;apply OA;intro j;rw [Tf,Tf]
   by_cases e:i=id/\j=off
   ·obtain ⟨rfl,rfl⟩:=e;rw [hb] at hv;injection hv with hv;subst hv
    rw [ho];show some (v0.ld _)=some (v0.ld _);rw [hu,hu]
   ·rw [AN,bU e]
  rw [e];exact k3
 ·obtain ⟨k1,k2,k3,k4⟩:=h.own s b cap sz len (hlive s hl) hk;exact ⟨k1,k2,λi hi=>k3 i (by rwa [hblk] at hi),k4⟩
 ·rw [AN,bU λe=>eZ hf e.1];exact (h.ver0 i hf).1 o
 ·exact ⟨.refl c,rfl,rfl,rfl,tW _,λ_ _ _ _=>rfl,λ_ _ _ _=>rfl,λb _ ho=>hown b ho,λ_ _ hf=>hf,λi _ hb'=>⟨by rw [hblk];exact hb'.blk,hb'.anon,hb'.cell,λo=>(AN.trans (bU λe=>by rw [e.1] at hb';rw [hb'.blk] at hb;cases hb)).trans (hb'.ver o),hb'.tok⟩,λ_ _ hl=>hl⟩
theorem SW_setv {P:Program} {N:Nat} {π:Pa} {k:Nat} {E:fP} {m:M} {Q:Exit->Nat->fP->M->Prop} {x:Code} {id:Pa} {off n:Nat} {cs:List V} {v0:V} (hb:m.blk id=some cs) (ho:cs[off]? = some v0) (hu:∀s,v0.ld s=v0) (hns:∀rows,v0 ≠ .list .self rows) (hn:m.ver id off<=n) (h:SW P N π x k E (m.setv id off cs n) Q):SW P N π x k E m Q:=by
 intro hf c a w h1 h2 h3;obtain ⟨g1,g2⟩:=h1.setv hb ho hu hns hn;refine wp_mono (h hf c a w g1 h2 h3) λe a' w' hp=>?_;exact hp.trans (g2 π) rfl (λ_ _=>rfl) (λt ht=>⟨ht,ht⟩)
section
variable {P:Program} {c c':Conc} {m m':M} {w w':World} {q:Pa}
theorem fZ.backT2 {id id2:Pa} {j j2:Nat} (h:fZ c m w) (hf:uU c q) (h':fZ c' m' w') (ht:m'.tok id j=true) (ht2:m'.tok id2 j2=true) :
  fZ c' (((m.back q m').tokset id j true).tokset id2 j2 true) w'/\∀b,fC c' (((m.back q m').tokset id j true).tokset id2 j2 true) b->fC c' m' b:=by
 have hsub:∀i,q.isSuffixOf i=true->m.blk i=none/\(∀off,m.ver i off=0)/\∀j,m.tok i j=false:=by
  intro i hi;have hf':=hf i (GS.1 hi);exact ⟨h.fresh_blk hf',(h.ver0 i hf').1,(h.ver0 i hf').2⟩
 have hblk:∀i,(((m.back q m').tokset id j true).tokset id2 j2 true).blk i=if q.isSuffixOf i then m.blk i else m'.blk i:=λ_=>rfl;have hver:∀i,(((m.back q m').tokset id j true).tokset id2 j2 true).ver i=if q.isSuffixOf i then m.ver i else m'.ver i:=λ_=>rfl;have htok:∀i k,(((m.back q m').tokset id j true).tokset id2 j2 true).tok i k=if i=id2/\k=j2 then true else if i=id/\k=j then true else (if q.isSuffixOf i then m.tok i else m'.tok i) k:=λ_ _=>rfl;refine h'.less (λi vs hv=>?_) (λi k hk=>?_) rfl (λi hi=>⟨λoff=>?_,λk=>?_⟩)
 ·rw [hblk] at hv;rw [hver];cases hs:q.isSuffixOf i with
  | true=>rw [cG hs,(hsub i hs).1] at hv;cases hv
  | false=>rw [bU (by simp [hs])] at hv ⊢;exact ⟨hv,rfl⟩
 ·rw [htok] at hk
  split at hk
  ·rename_i e;rw [e.1,e.2];exact ht2
  ·split at hk
   ·rename_i e;rw [e.1,e.2];exact ht
   ·split at hk
    ·rename_i hs;rw [(hsub i hs).2.2 k] at hk;cases hk
    ·exact hk
 ·rw [hver]
  split
  ·rename_i hs;exact (hsub i hs).2.1 off
  ·exact (h'.ver0 i hi).1 off
 ·rw [htok,bU,bU]
  ·split
   ·rename_i hs;exact (hsub i hs).2.2 k
   ·exact (h'.ver0 i hi).2 k
  ·rintro ⟨rfl,rfl⟩;rw [(h'.ver0 i hi).2 k] at ht;cases ht
  ·rintro ⟨rfl,rfl⟩;rw [(h'.ver0 i hi).2 k] at ht2;cases ht2
theorem SC_of2 {f:FuncId} {fn:Func} {body:Code} {args:List V} {mem:M} (hf:P.funcs[f]? = some fn) (hb:fn.body=some body) (hen:∀(xs:Array Value) (w:World),(callFunc f xs).run P w=.ok (.enter f xs) w)
  {N:Nat} (hN:fn.ntmps=N) (hfit:CZ N body=true) {rs:List ResultVar} (hrs:fn.results.toList=rs) (F:IL->IL->V)
  (h:SW P N q body 0 (RS args) m λe _ E' m'=>(e=.ret ∨ e=.normal)/\∃id j id2 j2,q <:+ id/\q <:+ id2/\(id=id2)=False/\(id2=id)=False/\m'.tok id j=true/\m'.tok id2 j2=true/\Hg P E' m' rs (λr=>r=F (.st (.anon id j)) (.st (.anon id2 j2)))/\m.back q m'=mem) :
  SC P f args q m λv m'=>∃(id:Pa) (j:Nat) (id2:Pa) (j2:Nat),q <:+ id/\q <:+ id2/\(id=id2)=False/\(id2=id)=False/\v=F (.st (.anon id j)) (.st (.anon id2 j2))/\m'=(mem.tokset id j true).tokset id2 j2 true:=by
 intro c xs w h1 h2 h3;refine .inl ⟨hen _ w,?_⟩;subst hN hrs;have hini:=Mj h2 fn.ntmps;refine calls_of_wp hf hb ?_;rw [xei];refine wp_mono (h hfit c _ w h1 hini h3.sub) ?_;intro e a' w' hp;obtain ⟨c',k',E',m',⟨he,id,j,id2,j2,eZ,hid2,hd,hd2,ht,ht2,hres,hm⟩,g2,g3,g4,g5,g6,g7⟩:=hp;obtain ⟨v,hC,x,hx,hv⟩:=Ma hres g2 g4;obtain ⟨hback,hown⟩:=h1.backT2 h3 g2 ht ht2
 have hX:oB q c m w c' (((m.back q m').tokset id j true).tokset id2 j2 true) w':=by
  refine ⟨g3.le,g3.os,g3.tape,g3.output,g3.size,g3.heap,g3.book,λb hb ho=>g3.own b hb (hown b ho),g3.fresh,λi hi hb=>?_,g3.lits⟩;have hbl:=(g3.keep i hi hb).back (m:=m) hi;refine ⟨hbl.blk,hbl.anon,hbl.cell,hbl.ver,λk=>?_⟩;show (if i=id2/\k=j2 then true else if i=id/\k=j then true else (m.back q m').tok i k)=false;rw [bU,bU]
  ·exact hbl.tok k
  ·rintro ⟨rfl,_⟩;exact hi eZ
  ·rintro ⟨rfl,_⟩;exact hi hid2
 have hdone:a'.defers=[]/\∃v,(results fn a'.tmps).run P w'=.ok v w'/\DH q c m w (λv m'=>∃(id:Pa) (j:Nat) (id2:Pa) (j2:Nat),q <:+ id/\q <:+ id2/\(id=id2)=False/\(id2=id)=False/\v=F (.st (.anon id j)) (.st (.anon id2 j2))/\m'=(mem.tokset id j true).tokset id2 j2 true) (.returned v) w':=
  ⟨g6,x,hx,x,c',v,_,rfl,⟨id,j,id2,j2,eZ,hid2,hd,hd2,hC,by rw [hm]⟩,hback,hX,hv⟩
 rcases he with rfl | rfl
 ·exact hdone
 ·exact hdone
end
theorem DF {P:Program} {N:Nat} {π:Pa} {k:Nat} {E:fP} {m:M} {Q:Exit->Nat->fP->M->Prop} {x:Code} {o:Pa} {j:Nat} (ht:m.tok o j=true) (h:(∀i,k<=i->(o=i::π)=False/\(i::π=o)=False)->SW P N π x k E m Q):SW P N π x k E m Q:=
 VA λhf=>h λi hi=>by
  have hne:o ≠ i::π:=by
   rintro rfl;rw [(hf.fU hi).2.2 j] at ht;cases ht
  exact ⟨eq_false hne,eq_false λe=>hne e.symm⟩
set_option linter.all false
section
variable {α:Type} {h:Hp} {v:V} {f:α->List V} {sz:Nat} {l:List α} {id:Pa}
end
attribute [go_sem] putH_at
theorem vt_done {q p:Pa} {m Y:M} {cs:List V} {h:Hp} (hF:Fr q p m Y) (hq:¬ q <:+ p) (hb:Y.blk p=some cs) (hh:Y.hp=h):∃vr,m.back q Y=m.ck p cs h vr:=⟨Y.ver p,by rw [hF.to hq hb,hh]⟩
