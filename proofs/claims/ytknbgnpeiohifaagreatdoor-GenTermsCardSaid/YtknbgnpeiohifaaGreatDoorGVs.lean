import Derived.Test.YtknbgnpeiohifaaGreatDoorGH1
namespace Go.Proofs.YtknbgnpeiohifaaGreatDoor.Abs
open Go.RowKit
def M.setv (m:M) (p:Pa) (off:Nat) (cs:List V) (n:Nat):M:=m.ck p cs m.hp (λo=>if o=off then n else m.ver p o)
section
variable {m:M} {p q:Pa} {off n:Nat} {cs:List V}
@[go_sem] theorem Zu {i:Pa}:(m.setv p off cs n).blk i=if i=p then some cs else m.blk i:=rI rfl
@[go_sem] theorem Jg {i:Pa} {o:Nat}:(m.setv p off cs n).ver i o=if i=p/\o=off then n else m.ver i o:=by
 show (if i=p then (λo=>if o=off then n else m.ver p o) else m.ver i) o=_
 by_cases e:i=p/\o=off
 ·rw [cX e,cX e.1];exact cX e.2
 ·rw [cE e]
  by_cases e1:i=p
  ·rw [cX e1,e1];exact cE λh=>e ⟨e1,h⟩
  ·rw [cE e1]
@[go_sem] theorem setv_tok:(m.setv p off cs n).tok=m.tok:=rI rfl
@[go_sem] theorem setv_gl:(m.setv p off cs n).gl=m.gl:=rI rfl
theorem wD {m2:M} (hq:¬ q <:+ p):m.back q (m2.setv p off cs n)=(m.back q m2).setv p off cs n:=by
 have hs:¬ q.isSuffixOf p=true:=λe=>hq (Px.1 e);unfold M.setv;rw [back_ck hq]
 congr 1
 funext o
 show _=if o=off then n else (if q.isSuffixOf p then m.ver p else m2.ver p) o;rw [cE hs]
theorem Pp {m2:M} (hq:q <:+ p):m.back q (m2.setv p off cs n)=m.back q m2:=by
 have hs:q.isSuffixOf p=true:=Px.2 hq;refine M.ext_hp (funext λi=>?_) (funext λi=>?_) rfl rfl rfl
 ·show (if q.isSuffixOf i then m.blk i else if i=p then some cs else m2.blk i)=if q.isSuffixOf i then m.blk i else m2.blk i
  by_cases e:i=p
  ·subst e;rw [cX hs,cX hs]
  ·rw [cE e]
 ·show (if q.isSuffixOf i then m.ver i else if i=p then _ else m2.ver i)=if q.isSuffixOf i then m.ver i else m2.ver i
  by_cases e:i=p
  ·subst e;rw [cX hs,cX hs]
  ·rw [cE e]
theorem Vx {m2:M} (hq:¬ q <:+ p):m.back q (m2.bump p off)=(m.back q m2).bump p off:=by
 have hs:¬ q.isSuffixOf p=true:=λe=>hq (Px.1 e);refine M.ext_hp rfl (funext λi=>funext λo=>?_) rfl rfl rfl;show (if q.isSuffixOf i then m.ver i else λo=>if i=p/\o=off then m2.ver i o+1 else m2.ver i o) o=if i=p/\o=off then (if q.isSuffixOf i then m.ver i else m2.ver i) o+1 else (if q.isSuffixOf i then m.ver i else m2.ver i) o
 by_cases e:q.isSuffixOf i=true
 ·rw [cX e,cX e,cE];rintro ⟨rfl,_⟩;exact hs e
 ·rw [cE e,cE e]
@[go_sem] theorem setv_setv {cs':List V} {n':Nat}:(m.setv p off cs n).setv p off cs' n'=m.setv p off cs' n':=by
 show (m.ck p cs m.hp _).ck p cs' m.hp _=_;rw [zaN];unfold M.setv
 congr 1
 funext o
 show (if o=off then n' else (if p=p then (λo=>if o=off then n else m.ver p o) else m.ver p) o)=_;rw [cX rfl]
 by_cases e:o=off
 ·rw [cX e,cX e]
 ·rw [cE e];show (if o=off then n else m.ver p o)=if o=off then n' else m.ver p o
  rw [cE e,cE e]
@[go_sem] theorem set_setv {cs':List V}:(m.setv p off cs n).set p cs'=m.setv p off cs' n:=by
 rw [JW];show (m.ck p cs m.hp _).ck p cs' m.hp ((m.ck p cs m.hp _).ver p)=_;rw [zaN];unfold M.setv
 congr 1
 show (if p=p then _ else _)=_;rw [cX rfl]
@[go_sem] theorem setv_set {cs':List V}:(m.set p cs').setv p off cs n=m.setv p off cs n:=by
 rw [JW];unfold M.setv;show (m.ck p cs' m.hp (m.ver p)).ck p cs m.hp _=_;rw [zaN]
 congr 1
 funext o
 show (if o=off then n else (if p=p then m.ver p else m.ver p) o)=_;rw [cX rfl]
theorem JV (h:m.ver p off=n):m.setv p off cs n=m.set p cs:=by
 rw [JW];unfold M.setv
 congr 1
 funext o
 by_cases e:o=off
 ·rw [cX e,e,h]
 ·rw [cE e]
theorem Zv (h:m.ver p off=n):(m.set p cs).bump p off=m.setv p off cs (n+1):=by
 rw [JW];refine M.ext_hp rfl (funext λi=>funext λo=>?_) rfl rfl rfl;show (if i=p/\o=off then (if i=p then m.ver p else m.ver i) o+1 else (if i=p then m.ver p else m.ver i) o)=(if i=p then (λo=>if o=off then n+1 else m.ver p o) else m.ver i) o
 by_cases e:i=p
 ·subst e;rw [cX rfl,cX rfl]
  by_cases e:o=off
  ·subst e;rw [cX ⟨rfl,rfl⟩,cX rfl,h]
  ·rw [cE λh=>e h.2,cE e]
 ·rw [cE e,cE e,cE λh=>e h.1]
end
theorem gT.setv {c:Conc} {m:M} {w:World} (h:gT c m w) {id:Pa} {off n:Nat} {cs:List V} {v0:V} (hb:m.blk id=some cs) (ho:cs[off]? = some v0) (hu:∀s,v0.ld s=v0) (hns:∀rows,v0 ≠ .list .self rows) (hn:m.ver id off<=n):gT c (m.setv id off cs n) w/\∀q,qK q c m w c (m.setv id off cs n) w:=by
 have hblk:∀i,(m.setv id off cs n).blk i=m.blk i:=by
  intro i;rw [Zu]
  by_cases e:i=id
  ·rw [cX e,e,hb]
  ·rw [cE e]
 have hlive:∀s,gJ (m.setv id off cs n) s=true->gJ m s=true:=by
  intro s hl;cases s with
  | anon i j=>exact hl
  | priv i=>exact hl
  | cell i o v=>
    obtain ⟨h1,vs,rows,h2,h3⟩:=vH hl;rw [hblk] at h2;refine vD ?_ h2 h3;rw [Jg,cE] at h1
    ·exact h1
    ·rintro ⟨rfl,rfl⟩;rw [hb] at h2;injection h2 with h2;subst h2
     rw [ho] at h3;injection h3 with h3;exact hns _ h3
 have hown:∀b,fN c (m.setv id off cs n) b->fN c m b:=by
  rintro b (⟨i,hi,hr⟩ | ⟨s,cap,sz,len,hl,hk⟩)
  ·exact .inl ⟨i,by rw [←hblk];exact hi,hr⟩
  ·exact .inr ⟨s,cap,sz,len,hlive s hl,hk⟩
 have gG:∀ {i:Pa},fO c i->i ≠ id:=by
  rintro i hf rfl;rw [h.fresh_blk hf] at hb;cases hb
 have hver:∀i o,m.ver i o<=(m.setv id off cs n).ver i o:=by
  intro i o;rw [Jg]
  split
  ·rename_i e;rw [e.1,e.2];exact hn
  ·exact uZ _
 refine ⟨⟨h.com,λi vs hv=>?_,λi i' b hi hi'=>h.inj i i' b (by rwa [hblk] at hi) (by rwa [hblk] at hi'),λs b cap sz len hl hk=>?_,λs s' b cap sz len cap' sz' len' hl hl'=>h.ownInj s s' b cap sz len cap' sz' len' (hlive s hl) (hlive s' hl'),λi o v hi hv=>h.ver i o v (by rwa [hblk] at hi) (Nat.lt_of_le_of_lt (hver i o) hv),h.gl,λi hf=>⟨λo=>?_,(h.ver0 i hf).2⟩,h.base,λb hl=>⟨(h.lit b hl).1,(h.lit b hl).2.1,λho=>(h.lit b hl).2.2 (hown b ho)⟩,h.hpr⟩,λq=>?_⟩
 ·rw [hblk] at hv;obtain ⟨b,ys,t,k1,k2,k3,k4,k5⟩:=h.blk i vs hv;refine ⟨b,ys,t,k1,k2,?_,k4,k5⟩
  have e:IL ((m.setv id off cs n).ver i) i vs=IL (m.ver i) i vs:=by
   unfold IL;apply Yz;intro j;rw [YL,YL]
   by_cases e:i=id/\j=off
   ·obtain ⟨rfl,rfl⟩:=e;rw [hb] at hv;injection hv with hv;subst hv
    rw [ho];show some (v0.ld _)=some (v0.ld _);rw [hu,hu]
   ·rw [Jg,cE e]
  rw [e];exact k3
 ·obtain ⟨k1,k2,k3,k4⟩:=h.own s b cap sz len (hlive s hl) hk;exact ⟨k1,k2,λi hi=>k3 i (by rwa [hblk] at hi),k4⟩
 ·rw [Jg,cE λe=>gG hf e.1];exact (h.ver0 i hf).1 o
 ·exact ⟨.refl c,rfl,rfl,rfl,uZ _,λ_ _ _ _=>rfl,λ_ _ _ _=>rfl,λb _ ho=>hown b ho,λ_ _ hf=>hf,λi _ hb'=>⟨by rw [hblk];exact hb'.blk,hb'.anon,hb'.cell,λo=>(Jg.trans (cE λe=>by rw [e.1] at hb';rw [hb'.blk] at hb;cases hb)).trans (hb'.ver o),hb'.tok⟩,λ_ _ hl=>hl⟩
theorem SW_setv {P:Program} {N:Nat} {π:Pa} {k:Nat} {E:gE} {m:M} {Q:Exit->Nat->gE->M->Prop} {x:Code} {id:Pa} {off n:Nat} {cs:List V} {v0:V} (hb:m.blk id=some cs) (ho:cs[off]? = some v0) (hu:∀s,v0.ld s=v0) (hns:∀rows,v0 ≠ .list .self rows) (hn:m.ver id off<=n) (h:SW P N π x k E (m.setv id off cs n) Q):SW P N π x k E m Q:=by
 intro hf c a w h1 h2 h3;obtain ⟨g1,g2⟩:=h1.setv hb ho hu hns hn;refine wp_mono (h hf c a w g1 h2 h3) λe a' w' hp=>?_;exact hp.trans (g2 π) rfl (λ_ _=>rfl) (λt ht=>⟨ht,ht⟩)
section
variable {P:Program} {c c':Conc} {m m':M} {w w':World} {q:Pa}
theorem gT.backT2 {id id2:Pa} {j j2:Nat} (h:gT c m w) (hf:Af c q) (h':gT c' m' w') (ht:m'.tok id j=true) (ht2:m'.tok id2 j2=true) :
  gT c' (((m.back q m').tokset id j true).tokset id2 j2 true) w'/\∀b,fN c' (((m.back q m').tokset id j true).tokset id2 j2 true) b->fN c' m' b:=by
 have hsub:∀i,q.isSuffixOf i=true->m.blk i=none/\(∀off,m.ver i off=0)/\∀j,m.tok i j=false:=by
  intro i hi;have hf':=hf i (Px.1 hi);exact ⟨h.fresh_blk hf',(h.ver0 i hf').1,(h.ver0 i hf').2⟩
 have hblk:∀i,(((m.back q m').tokset id j true).tokset id2 j2 true).blk i=if q.isSuffixOf i then m.blk i else m'.blk i:=λ_=>rfl;have hver:∀i,(((m.back q m').tokset id j true).tokset id2 j2 true).ver i=if q.isSuffixOf i then m.ver i else m'.ver i:=λ_=>rfl;have htok:∀i k,(((m.back q m').tokset id j true).tokset id2 j2 true).tok i k=if i=id2/\k=j2 then true else if i=id/\k=j then true else (if q.isSuffixOf i then m.tok i else m'.tok i) k:=λ_ _=>rfl;refine h'.less (λi vs hv=>?_) (λi k hk=>?_) rfl (λi hi=>⟨λoff=>?_,λk=>?_⟩)
 ·rw [hblk] at hv;rw [hver];cases hs:q.isSuffixOf i with
  | true=>rw [cX hs,(hsub i hs).1] at hv;cases hv
  | false=>rw [cE (by simp [hs])] at hv ⊢;exact ⟨hv,rfl⟩
 ·rw [htok] at hk
  split at hk
  ·rename_i e;rw [e.1,e.2];exact ht2
  ·split at hk
   ·rename_i e;rw [e.1,e.2];exact ht
   ·split at hk
    ·rename_i hs;rw [(hsub i hs).2.2 k] at hk;cases hk
    ·exact hk
 ·rw [hver]
  split
  ·rename_i hs;exact (hsub i hs).2.1 off
  ·exact (h'.ver0 i hi).1 off
 ·rw [htok,cE,cE]
  ·split
   ·rename_i hs;exact (hsub i hs).2.2 k
   ·exact (h'.ver0 i hi).2 k
  ·rintro ⟨rfl,rfl⟩;rw [(h'.ver0 i hi).2 k] at ht;cases ht
  ·rintro ⟨rfl,rfl⟩;rw [(h'.ver0 i hi).2 k] at ht2;cases ht2
theorem SC_of2 {f:FuncId} {fn:Func} {body:Code} {args:List V} {mem:M} (hf:P.funcs[f]? = some fn) (hb:fn.body=some body) (hen:∀(xs:Array Value) (w:World),(callFunc f xs).run P w=.ok (.enter f xs) w)
  {N:Nat} (hN:fn.ntmps=N) (hfit:IO N body=true) {rs:List ResultVar} (hrs:fn.results.toList=rs) (F:NV->NV->V)
  (h:SW P N q body 0 (XE args) m λe _ E' m'=>(e=.ret ∨ e=.normal)/\∃id j id2 j2,q <:+ id/\q <:+ id2/\(id=id2)=False/\(id2=id)=False/\m'.tok id j=true/\m'.tok id2 j2=true/\Mu P E' m' rs (λr=>r=F (.st (.anon id j)) (.st (.anon id2 j2)))/\m.back q m'=mem) :
  SC P f args q m λv m'=>∃(id:Pa) (j:Nat) (id2:Pa) (j2:Nat),q <:+ id/\q <:+ id2/\(id=id2)=False/\(id2=id)=False/\v=F (.st (.anon id j)) (.st (.anon id2 j2))/\m'=(mem.tokset id j true).tokset id2 j2 true:=by
 intro c xs w h1 h2 h3;refine .inl ⟨hen _ w,?_⟩;subst hN hrs;have hini:=Vc h2 fn.ntmps;refine calls_of_wp hf hb ?_;rw [xef];refine wp_mono (h hfit c _ w h1 hini h3.sub) ?_;intro e a' w' hp;obtain ⟨c',k',E',m',⟨he,id,j,id2,j2,gG,hid2,hd,hd2,ht,ht2,hres,hm⟩,g2,g3,g4,g5,g6,g7⟩:=hp;obtain ⟨v,hC,x,hx,hv⟩:=VP hres g2 g4;obtain ⟨hback,hown⟩:=h1.backT2 h3 g2 ht ht2
 have hX:qK q c m w c' (((m.back q m').tokset id j true).tokset id2 j2 true) w':=by
  refine ⟨g3.le,g3.os,g3.tape,g3.output,g3.size,g3.heap,g3.book,λb hb ho=>g3.own b hb (hown b ho),g3.fresh,λi hi hb=>?_,g3.lits⟩;have hbl:=(g3.keep i hi hb).back (m:=m) hi;refine ⟨hbl.blk,hbl.anon,hbl.cell,hbl.ver,λk=>?_⟩;show (if i=id2/\k=j2 then true else if i=id/\k=j then true else (m.back q m').tok i k)=false;rw [cE,cE]
  ·exact hbl.tok k
  ·rintro ⟨rfl,_⟩;exact hi gG
  ·rintro ⟨rfl,_⟩;exact hi hid2
 have hdone:a'.defers=[]/\∃v,(results fn a'.tmps).run P w'=.ok v w'/\HB q c m w (λv m'=>∃(id:Pa) (j:Nat) (id2:Pa) (j2:Nat),q <:+ id/\q <:+ id2/\(id=id2)=False/\(id2=id)=False/\v=F (.st (.anon id j)) (.st (.anon id2 j2))/\m'=(mem.tokset id j true).tokset id2 j2 true) (.returned v) w':=
  ⟨g6,x,hx,x,c',v,_,rfl,⟨id,j,id2,j2,gG,hid2,hd,hd2,hC,by rw [hm]⟩,hback,hX,hv⟩
 rcases he with rfl | rfl
 ·exact hdone
 ·exact hdone
end
theorem HA {P:Program} {N:Nat} {π:Pa} {k:Nat} {E:gE} {m:M} {Q:Exit->Nat->gE->M->Prop} {x:Code} {o:Pa} {j:Nat} (ht:m.tok o j=true) (h:(∀i,k<=i->(o=i::π)=False/\(i::π=o)=False)->SW P N π x k E m Q):SW P N π x k E m Q:=
 zbf λhf=>h λi hi=>by
  have hne:o ≠ i::π:=by
   rintro rfl;rw [(hf.fW hi).2.2 j] at ht;cases ht
  exact ⟨eq_false hne,eq_false λe=>hne e.symm⟩
set_option linter.all false
def Rd {α:Type} (h:Hp) (v:V) (f:α->List V) (sz:Nat) (l:List α):Prop:=v=.list .none (l.map f) ∨ ∃id,v=.vec id sz l.length/\h id=some (l.map f).flatten
section
variable {α:Type} {h:Hp} {v:V} {f:α->List V} {sz:Nat} {l:List α} {id:Pa}
@[go_sem] theorem Rd_l:Rd h (.list .none (l.map f)) f sz l=True:=eq_true (.inl rfl)
@[go_sem] theorem Rd_v {n:Nat}:Rd h (.vec id sz n) f sz l=(n=l.length/\h id=some (l.map f).flatten):=by
 apply propext
 constructor
 ·rintro (e | ⟨i,e,k⟩)
  ·cases e
  ·cases e;exact ⟨rfl,k⟩
 ·rintro ⟨rfl,k⟩;exact .inr ⟨id,rfl,k⟩
theorem Rd.cases (k:Rd h v f sz l):(v=.list .none (l.map f)/\0<=0) ∨ ∃id,v=.vec id sz l.length/\h id=some (l.map f).flatten:=k.imp (λe=>⟨e,uZ 0⟩) id
theorem Ht (hf:∀x,(f x).length=sz):∀l:List α,(l.map f).flatten.length=l.length*sz
 | []=>zd
 | x::l=>by rw [yV,Ll,oY,hf,Ht hf l,qB,NM,Nat.add_comm]
theorem TO (hf:∀x,(f x).length=sz):∀ {l:List α} {i:Nat} {x:α},l[i]? = some x->∃rest,(l.map f).flatten.drop (i*sz)=f x++rest
 | [],_,_,e=>nomatch e
 | y::l,0,x,e=>by
   rw [xeg] at e
   injection e with e
   subst e;exact ⟨(l.map f).flatten,by rw [yV,Ll,Nat.zero_mul,DH]⟩
 | y::l,i+1,x,e=>by
   rw [xdy] at e;obtain ⟨r,hr⟩:=TO hf e;refine ⟨r,?_⟩;rw [yV,Ll,NM,Nat.add_comm,←List.drop_drop,List.drop_left' (hf y),hr]
theorem flat_le (hf:∀x,(f x).length=sz) {i:Nat} (hi:i<l.length):i*sz+sz<=(l.map f).flatten.length:=by
 rw [Ht hf,←NM];exact xdi sz hi
theorem Th:∀(pre:List V) (us old rest:List V),us.length=old.length->Kq (pre++(old++rest)) pre.length us=pre++(us++rest)
 | pre,[],old,rest,e=>by rw [sY] at e;rw [List.length_eq_zero_iff.1 e.symm];rfl
 | pre,u::us,[],rest,e=>nomatch e
 | pre,u::us,o::old,rest,e=>by
   have:=Th (pre++[u]) us old rest (by simpa using e);rw [Kq];simp only [Mi,oY,qB,sY,Ri,AE] at this;have e2:(pre++(o::old++rest)).set pre.length u=pre++(u::(old++rest)):=zd
   rw [e2,this];rfl
theorem TP (hf:∀x,(f x).length=sz):∀ {l:List α} {i:Nat},i<l.length->∀x:α,Kq (l.map f).flatten (i*sz) (f x)=((l.set i x).map f).flatten:=by
 intro l i hi x;have e1:l=l.take i++l[i]::l.drop (i+1):=by rw [List.getElem_cons_drop,xeo]
 have e2:(l.map f).flatten=((l.take i).map f).flatten++(f l[i]++((l.drop (i+1)).map f).flatten):=by
  conv=>lhs;rw [e1]
  rw [YI,List.flatten_append,yV,Ll]
 have e3:i*sz=((l.take i).map f).flatten.length:=by rw [Ht hf,NL,xds zb]
 have e4:l.set i x=l.take i++x::l.drop (i+1):=by rw [List.set_eq_take_append_cons_drop,cX hi]
 rw [e2,e3,Th _ _ _ _ (by rw [hf,hf]),e4,YI,List.flatten_append,yV,Ll]
end
@[go_sem] theorem putH_putH {h:Hp} {id:Pa} {a b:List V}:qL (qL h id a) id b=qL h id b:=by
 funext i
 show (if i=id then some b else if i=id then some a else h i)=if i=id then some b else h i
 by_cases e:i=id
 ·rw [cX e,cX e]
 ·rw [cE e,cE e,cE e]
theorem JX {h:Hp} {id:Pa} {a:List V} (e:h id=some a):qL h id a=h:=by
 funext i
 show (if i=id then some a else h i)=h i
 by_cases e2:i=id
 ·rw [cX e2,e2,e]
 ·rw [cE e2]
attribute [go_sem] putH_at
theorem vt_done {q p:Pa} {m Y:M} {cs:List V} {h:Hp} (hF:Fr q p m Y) (hq:¬ q <:+ p) (hb:Y.blk p=some cs) (hh:Y.hp=h):∃vr,m.back q Y=m.ck p cs h vr:=⟨Y.ver p,by rw [hF.to hq hb,hh]⟩
