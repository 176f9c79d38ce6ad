import Derived.Test.YtnheknbibdgglaaGreatDoorMGIx
namespace Go.Proofs.YtnheknbibdgglaaGreatDoor.Abs
open Go.RowKit Tryz
open IntKind (i64 u32 u64 u8)
set_option linter.all false
set_option maxRecDepth 10000
theorem SW_reg1 {P:Program} {N:Nat} {π:Pa} {k:Nat} {E:fP} {m:M} {Q:Exit->Nat->fP->M->Prop} {id:Nat} {o:Oper} {os:List Oper} (v0 u0:V) (hg:o.guard=none) (hwk:∀(c:Conc) (x:Value),CR c [v0] [x]->CR c [u0] [x]) (h1:iH P o (k::π) E m (λv m1=>v=v0/\m1=m))
  (h:∀K:Nat->fP->M->Prop,(∀k E m,Q .normal k E m->K k E m)->lU P (o::os) π K os (k+1) (lE o.dst u0 E) m):SW P N π (.region id (o::os).toArray false) k E m Q:=by
 intro hf c a w hR hE hF;have h:=h (Q .normal) λ_ _ _ x=>x;have hfit:Et N (o::os)=true:=by simpa [CZ] using hf
 have hfit2:=hfit;simp only [Et,List.all_cons,KN] at hfit2
 have hfo:∀d,o.dst=some d->d<N:=by
  intro d hd;have:=hfit2.1;rw [hd] at this;simpa using this
 refine wp_region_list ?_;show wpList P _ _ (o::os) a w;refine BigFrame.wpList_want (by simp [Region.wanted,hg]) λK' hK'=>?_;refine Oper.wp_mono ?_ (FN (N:=N) h1 hR hE hF.fU hfo _);rintro a' w' ⟨c',v,m',⟨rfl,rfl⟩,g1,g2,g3,g4⟩
 have g5:qH c' (lE o.dst u0 E) a' N:=by
  refine ⟨g3.size,λt=>?_⟩;have:=g3.fU t;cases hd:o.dst with
  | none=>rw [hd] at this;exact this
  | some d=>
    rw [hd] at this;show CR c' [if t=d then u0 else E t] _;have e:lE (some d) v E t=if t=d then v else E t:=rfl;rw [e] at this
    by_cases ht:t=d
    ·rw [cG ht] at this ⊢;exact hwk c' _ this
    ·rw [bU ht] at this ⊢;exact this
 refine hK' a' w' (QN (full:=(o::os).toArray) (W:=wr (.region id (o::os).toArray false)) (E0:=E) (c0:=c) (m0:=m') (w0:=w) (a0:=a) (K:=Q .normal) (λa' w' hp=>hp) os (k+1) _ c' m' w' a' (by simpa using h) hfit2.2 g1 g5 (g2.freshK hF) g2.up (g4) (λt ht=>?_) (λo' ho' d hd=>?_))
 ·cases hd:o.dst with
  | none=>rfl
  | some d=>
    show (if t=d then u0 else E t)=E t;rw [bU];rintro rfl
    have:wr (.region id (o::os).toArray false) t=true:=by
     simp only [wr,List.any_eq_true,beq_iff_eq];exact ⟨o,zc,hd⟩
    rw [this] at ht;cases ht
 ·simp only [wr,List.any_eq_true,beq_iff_eq];exact ⟨o',by simp [ho'],hd⟩
theorem SI {P:Program} {N:Nat} {π:Pa} {k:Nat} {E:fP} {m:M} {Q:Exit->Nat->fP->M->Prop} {id t d1 d2:Nat} {T T1 T2 T3:TypeId} {e:TypeId} {p1 p2:String} {a1 a2:Array Edge} {o:IL} {r:List V} {rows:List (List V)} (hx:E t=.list o (r::rows)) (hT:P.underlying T=some (.slice e))
  (h:Q .normal (k+2) (upd (upd E d1 (.list o (r::rows))) d2 (.lit (.bool false))) m):SW P N π (.region id #[⟨some d1,.move (.tmp t),T1,p1,a1,none⟩,⟨some d2,.binOp .eql T (.tmp d1) (.const (.slice none 0 0)) T2,T3,p2,a2,none⟩] false) k E m Q:=by
 intro hf c a w hR hE hF
 have hd:d1<N/\d2<N:=by
  simpa [CZ,Et] using hf
 refine wp_region_list ?_;refine BigFrame.wpList_want (by simp [Region.wanted]) λK1 hK1=>?_;have s1:iH P ⟨some d1,.move (.tmp t),T1,p1,a1,none⟩ (k::π) E m (λv m1=>v=.list o (r::rows)/\m1=m):=⟨hx,rfl⟩;refine Oper.wp_mono ?_ (FN (N:=N) s1 hR hE hF.fU (λd e=>by injection e with e;rw [←e];exact hd.1) _);rintro a' w' ⟨c',v,m',⟨rfl,rfl⟩,g1,g2,g3,g4⟩;refine hK1 a' w' ?_;refine BigFrame.wpList_want (by simp [Region.wanted]) λK2 hK2=>?_
 have hv:CR c' [.list o (r::rows)] [a'.tmps.getD d1 undef]:=by
  have:=g3.fU d1;have e:lE (some d1) (V.list o (r::rows)) E d1=.list o (r::rows):=cG rfl;rw [e] at this;exact this
 obtain ⟨ad,cap,es,sz,he,k1,k2,kz,k3,k4,k5,_⟩:=hv.inv_list;obtain ⟨b,off,rfl⟩:=k5 zc
 have hrun:(execOp a'.eval ⟨some d2,.binOp .eql T (.tmp d1) (.const (.slice none 0 0)) T2,T3,p2,a2,none⟩).run P w'=.ok (.value (.bool false)) w':=by
  have e1:a'.eval (.tmp d1)=.slice (some ⟨b,off,none⟩) (r::rows).length cap:=he;have e2:a'.eval (.const (.slice none 0 0))=.slice none 0 0:=rfl;show Sem.run P (do pure (Next.value (←(do eqGuard .eql T (.tmp d1) (.const (.slice none 0 0)) (a'.eval (.tmp d1)) (a'.eval (.const (.slice none 0 0)));binOp .eql T (a'.eval (.tmp d1)) (a'.eval (.const (.slice none 0 0))):Sem Value)))) w'=_;rw [e1,e2]
  have heq:∀d n c,(Op.equalIn (d+1) T (.slice (some ⟨b,off,none⟩) n c) (.slice none 0 0)).run P w'=.ok false w':=λd n c=>by
   unfold Op.equalIn;simp [run_underlying hT]
  have heq2:∀n c,(Op.equal T (.slice (some ⟨b,off,none⟩) n c) (.slice none 0 0)).run P w'=.ok false w':=λn c=>heq _ n c;simp [eqGuard,binOp,heq2]
 refine Oper.wp_mono ?_ (jR (C:=λv m1=>v=.lit (.bool false)/\m1=m') (q:=(k+1)::π) g3 (λd e=>by injection e with e;rw [←e];exact hd.2) hrun ⟨rfl,rfl⟩ g1 (.refl _ c' m' w') (.lit .nil));rintro a'' w'' ⟨c'',v,m'',⟨rfl,rfl⟩,q1,q2,q3,q4⟩;refine hK2 a'' w'' ⟨c'',k+2,_,m'',h,q1,g2.up.trans q2.up,q3,?_,q4.trans g4,λt ht=>?_⟩
 ·exact q2.freshK (g2.freshK hF)
 ·have h0:t ≠ d1/\t ≠ d2:=by
   simp only [wr,List.any_cons,List.any_nil,Bool.or_false,Bool.or_eq_false_iff] at ht;exact ⟨λe=>by rw [e] at ht;simp at ht,λe=>by rw [e] at ht;simp at ht⟩
  show (if t=d2 then _ else if t=d1 then _ else E t)=E t;rw [bU h0.2,bU h0.1]
theorem QE:∀ {l:List Int},List.map V.toHp (List.map (cI .u32) l).flatten=List.map DC l
 | []=>rfl
 | x::l=>by
   rw [oC,HJ,xds,QE,oC];rfl
theorem UT {l:List Int} (hl:0<l.length) (hl2:l.length<=1073741824) (q:Pa) (m:M) (vs:List V) (hv:vs.map V.weak1=[.list .none (l.map (cI .u32))]) :
  SC prog 33 vs q m (λv m'=>v=.vec (5::q) 1 l.length/\m'=m.hset (5::q) (l.map DC)):=by
 refine SC.wv hv (oE func33 call33 ntmps33 results33 ?_);refine qT λK hK=>?_;simp only [go_sem];apply hK;obtain ⟨x,l,rfl⟩:∃x l',l=x::l':=by cases l with | nil=>simp at hl | cons x l=>exact ⟨x,l,rfl⟩
 refine aN (aN (SI (e:=43) (o:=.none) (r:=cI .u32 x) (rows:=l.map (cI .u32)) (by simp only [go_sem,seval,oC,oC]) zd ?_));refine mA false (by simp only [go_sem,↓reduceIte,oC]) ?_;simp only [↓reduceIte,Bt];refine bL ?_
 refine aN (SW_reg1 (.list .exact []) .nilv rfl (λc x hx=>?_) ?_ λK hK=>?_)
 ·obtain ⟨a,cap,es,sz,rfl,k1,k2,kz,k3,k4,k5,k6,kc,k7⟩:=hx.inv_list;obtain ⟨rfl,_⟩:=k7;exact .nilv .nil
 ·simp only [iH];simp only [go_sem,Nat.reduceLT,oC,qA,and_true,mO]
 ·simp only [go_sem,seval,oC,true_and,and_true,jJ,mO,wM,xed,implies_true,oC];refine ⟨za,by simp only [jJ] at hl2;omega,?_⟩;apply hK;refine cB ?_;refine ⟨by first | exact .inl rfl | exact .inl trivial,?_⟩;simp only [go_sem,↓reduceIte,oC,wN,EP,true_and,jJ,oC,HJ,gR,jQ,bG];rw [QE]
theorem fZ.reHp {c:Conc} {m:M} {w:World} (h:fZ c m w) {A:Pa} {vs us:List V} (hv:m.hp A=some vs) (hw:Oc c vs us) (q:Pa):fZ c (m.hset A us) w/\Abs.oB q c m w c (m.hset A us) w:=by
 obtain ⟨b,n,hk,cs,t,hB,hl,hcr,hone⟩:=h.hpr A vs hv;have hlen:=hw.len;exact h.hwrite q hv hk hB hB rfl (World.grownBy.refl _ _) (by rw [hlen];exact hl) (by rw [hlen];exact Oc.ok (.refl c) hw hcr) hone
def Ms (hs:List (List Int)) (k:Int):V:=if k<0 then .nilv else .list .none ((hs.getD k.toNat []).map (cI .u32))
theorem SW_frz {P:Program} {N:Nat} {π:Pa} {k:Nat} {E:fP} {m:M} {Q:Exit->Nat->fP->M->Prop} {code:Code} {W A:Pa} {AS:List Pa} {LS:List Nat} {ws rs:List Int} {hs:List (List Int)} (kk:oV m.hp W A AS LS ws rs hs) (hrs:∀i ∈ rs,i<(hs.length:Int))
  (h:∀h':Hp,h' A=some (rs.map (Ms hs))->SW P N π code k E (m.seth h') Q):SW P N π code k E m Q:=by
 intro hf c a w h1 h2 h3
 obtain ⟨c',g1,g2,g3⟩:=h1.freezeL AS (λid hi=>by
  obtain ⟨i,l,e1,e2⟩:=kk.find hi;rw [kk.fU i id l e1 e2];simp)
 have hA:(m.seth (Ek m.hp AS)).hp A=some (rs.map (Ac AS LS)):=by
  show (if A ∈ AS then none else m.hp A)=_;rw [bU kk.aas,kk.a]
 have hw:∀l:List Int,(∀i ∈ l,i<(hs.length:Int))->Oc c' (l.map (Ac AS LS)) (l.map (Ms hs)):=by
  intro l
  induction l with
  | nil=>intro _;exact trivial
  | cons i l ih=>
    intro hl;refine ⟨?_,ih λj hj=>hl j (by simp [hj])⟩
    by_cases hi:i<0
    ·have e1:Ac AS LS i=.nilv:=cG hi;have e2:Ms hs i=.nilv:=cG hi;rw [e1,e2];exact Wk.refl _ _
    ·have hil:=hl i zc;have hit:i.toNat<hs.length:=za
     obtain ⟨x,e1,e2,e3,_,_⟩:=kk.get (i:=i) za (tS hit)
     have e4:Ms hs i=.list .none (hs[i.toNat].map (cI .u32)):=by
      unfold Ms;rw [bU hi,Oq,tS hit];rfl
     rw [e1,e4]
     have:=g3 x (zX e3) _ e2 1 (hs[i.toNat].map (cI .u32)) (by
      rw [wM,SQ,xdx (by rw [wM];exact tW _)]
      generalize hs[i.toNat]=l
      induction l with
      | nil=>rfl
      | cons y l ih=>rw [oC,oC,HJ,←ih];rfl) (λr hr=>by
      obtain ⟨y,_,rfl⟩:=Iw.1 hr;rfl)
     rw [wM] at this;exact this
 obtain ⟨r1,r2⟩:=g1.reHp hA (hw rs hrs) π;have hX:=(g2 π).trans r2;refine wp_mono (h ((m.seth (Ek m.hp AS)).hset A (rs.map (Ms hs))).hp (by show (if A=A then _ else _)=_;rw [cG rfl]) hf c' a w r1 ⟨h2.size,λt=>(h2.fU t).mono hX.le⟩ (λj hj id eZ=>?_)) λe a' w' hp=>?_
 ·exact ((g2 (0::id)).trans (g1.reHp hA (hw rs hrs) (0::id)).2).fresh id (λhs=>by have:=hs.length_le;simp only [jJ] at this;omega) (h3 j hj id eZ)
 ·exact hp.trans hX rfl (λ_ _=>rfl) (λt ht=>⟨ht,ht⟩)
theorem fRef_at {hs:List (List Int)} {k:Int} {l:List Int} (h0:0<=k) (h:hs[k.toNat]? = some l):Ms hs k=.list .none (l.map (cI .u32)):=by
 unfold Ms;rw [bU za,Oq,h];rfl
theorem OX {rn:aE} {fr:aI} {hs:List (List Int)} {x:cC} (h:AD rn fr hs=some x) (q:Pa) (m:M) (vs:List V) (P0 P1:Pa) (z:Nat) (W A:Pa) (AS:List Pa) (LS:List Nat) (hv:vs.map V.weak1=[.ptr P0 0,.ptr P1 0]) (hmP0:m.blk P0=some (KY rn)) (hmP1:m.blk P1=some (Eo W A fr)) (hvr:m.ver P0 4=z+rn.bT.length) (hkF:oV m.hp W A AS LS fr.bP fr.aX hs) (hn01:(P0=P1)=False) (hn10:(P1=P0)=False) :
  SC prog 35 vs q m (λv m'=>∃h',v=.agg (cC.C x)/\m'=m.seth h'):=by
 refine SC.wv hv ?_;refine SC.apart hmP0 λhpP0=>?_;refine SC.apart hmP1 λhpP1=>?_;refine oE func35 call35 ntmps35 results35 ?_;unfold AD at h;obtain ⟨⟨hrs,hp0,hp1,hvl⟩,h⟩:=bN h;obtain ⟨oa,hoa,h⟩:=aD h;obtain rfl:=aZ h;refine SW_frz hkF hrs λh' hA=>?_;have hb0:=hmP0;have hb1:=hmP1;simp only [go_sem,wN,EP,KY] at hb0 hb1
 repeat refine aN ?_
 refine bX λK hK=>?_;simp only [go_sem,oC,qA];apply hK
 repeat refine aN ?_
 refine eV λK hK=>?_;simp only [go_sem,seval,oC,qA,wN,ER,EP,true_and,and_true,Bu,sR,Gq,Gp,GD,Ii,jJ,mO,KJ,ED,jZ hpP0,hb0];apply hK;simp only [aR]
 repeat refine aN ?_
 refine bX λK hK=>?_;simp only [go_sem,seval,and_true,Bu,sR,jZ hpP0,hb0];apply hK;refine rE 23 (λE' m'=>E' 0=.ptr P0 0/\E' 1=.ptr P1 0/\E' 4=.ptr (0::q) 0/\E' 5=.ptr (10::q) 0/\m'.blk (10::q)=some [.lit (.int .i64 rn.cN),.lit (.int .u64 (if rn.cN=0 then fr.eX else 0)),.list .self [],.list .none (rn.bT.map bE.C)]/\m'.blk (0::q)=some [.lit (.int .i64 0),.lit (.int .u64 0),.list .self [],.list .self []]/\m'.blk P0=m.blk P0/\m'.blk P1=m.blk P1/\m'.gl=m.gl/\m'.hp=h'/\m.back q m'=m.seth h') ?_ ?_
 ·refine HA (rn.cN == 0) (λc1=>?_) (λc1=>?_)
  ·refine kM λK hK=>?_;simp only [go_sem,seval,true_and,Bu,sR,GD,Ii,jJ,mO,jZ hpP1,hb1];apply hK;refine ⟨zb,?_⟩;rw [cG (by simpa using c1)];simp only [go_sem,seval,and_true,jZ hpP0,jZ hpP1,bB,dI,jQ,bG]
  ·refine bL ?_;refine ⟨zb,?_⟩;rw [bU (by simpa using c1)];simp only [go_sem,seval,and_true,jZ hpP0,jZ hpP1,bB,dI,jQ,bG]
 ·rintro E1 m1 ⟨e0,e1,e4,e5,b10,b0,bP0,bP1,gl1,hp1',bk⟩ _;simp only [aR];have hc1:=bP1.trans hmP1;simp only [go_sem] at hc1
  repeat refine aN ?_
  refine eV λK hK=>?_;simp only [go_sem,seval,FI,xej,true_and,Bu,sR,jJ,mO,wM,implies_true,e1,hc1,hp0,hp1];apply hK;refine cK ?_;obtain ⟨p,hp⟩:∃p:Nat,fr.f_.aQ.toNat=p:=⟨_,rfl⟩;rw [hp] at hoa;simp only [hp];have hpl:p<=fr.f_.aO.length:=za
  have hlen:(fr.f_.aO.take p).length=p:=by rw [EC];omega
  refine FE (λc E' m'=>∃(l:List aJ) (v:Nat) (out:List (List Int)),c=l.length/\(fr.f_.aO.take p).drop v=l/\v<=(fr.f_.aO.take p).length/\Iy hs l v fr.aX out=some oa/\out.length<=v ∧
   E' 1=.ptr P1 0/\E' 4=.ptr (0::q) 0/\E' 5=.ptr (10::q) 0/\E' 37=.list .none ((fr.f_.aO.take p).map aJ.C)/\E' 38=.lit (.int .i64 ((fr.f_.aO.take p).length:Int))/\E' 39=.lit (.int .i64 (v:Int)) ∧
   m'.blk (10::q)=some [.lit (.int .i64 rn.cN),.lit (.int .u64 (if rn.cN=0 then fr.eX else 0)),.list .self (out.map (cL (cI .u32))),.list .none (rn.bT.map bE.C)]/\m'.blk (0::q)=some [.lit (.int .i64 0),.lit (.int .u64 0),.list .self [],.list .self []]/\m'.blk P1=m.blk P1/\m'.gl=m.gl/\m'.hp=h'/\m.back q m'=m.seth h') (fr.f_.aO.take p).length ?_ ?_
  ·refine ⟨fr.f_.aO.take p,0,[],rfl,rfl,HI _,hoa,tW _,?_⟩;refine ⟨?_,?_,?_,?_,?_,?_,?_,?_,?_,?_,?_,?_⟩
   all_goals try simp only [go_sem,seval,qA,e1,e4,e5,b10,b0,bP1,gl1,hp1',bk,EC]
  ·rintro i c E2 m2 ⟨l,v,out,rfl,hl,hvl1,hol,hov,e1,e4,e5,e37,e38,e39,b10,b0,bP1,gl2,hp2,bk⟩ _;have hc1:=bP1.trans hmP1;simp only [go_sem] at hc1;refine qT λK hK=>?_;simp only [go_sem,e38,e39];apply hK;refine aN ?_;cases l with
   | nil=>
     have hvv:¬ v<(fr.f_.aO.take p).length:=by
      have:=vJ List.length hl;simp only [HG,mO] at this;omega
     refine mA false (by simp only [go_sem,↓reduceIte];exact vJ (λb=>V.lit (.bool b)) (Om (by simp only [EC] at hvv ⊢;omega))) ?_;simp only [↓reduceIte,Bt];refine gE ?_
     try simp only [cV,cM,↓reduceIte,aR]
     rw [Iy] at hol;obtain rfl:=aZ hol
     repeat refine aN ?_
     refine bX λK hK=>?_;simp only [go_sem,seval,oC,qA,true_and,sR,Gq,Gp,GD,Ii,jJ,mO,e4,e5,b10,b0];apply hK;refine cB ?_;refine ⟨by first | exact .inl rfl | exact .inl trivial,?_⟩;simp only [go_sem,seval,oC,qA,true_and,sR,Gq,Gp,jJ,mO,e4,bB,bk];exact ⟨h',rfl⟩
   | cons x l=>
     have hvb:v<(fr.f_.aO.take p).length:=by
      have:=vJ List.length hl;simp only [HG,jJ] at this;omega
     have hx:(fr.f_.aO.take p)[v]? = some x:=by
      have:=vJ List.head? hl;simpa [Td] using this
     have hl2:(fr.f_.aO.take p).drop (v+1)=l:=by
      have:=vJ List.tail hl;rw [List.tail_drop] at this;exact this
     have g1:(0:Int)<=(v:Int):=SR _;have g2:(v:Int)<((fr.f_.aO.take p).length:Int):=za
     have hw:i64.wrap ((v:Int)+1)=((v+1:Nat):Int):=by rw [fD za za];omega
     refine mA true (by simp only [go_sem,↓reduceIte];exact vJ (λb=>V.lit (.bool b)) (vO g2)) ?_;simp only [↓reduceIte];refine bL ?_
     refine aN (cK (qT λK hK=>?_));simp only [go_sem,seval,oC,qA,FI,true_and,sR,Gq,Gp,GD,Ii,jJ,mO,wM,AJ,implies_true,e37,e39,g1,g2,wR,hx];apply hK;refine qT λK hK=>?_;simp only [go_sem,seval,Bu,sR];apply hK;rw [Iy] at hol;refine HA (x.bF == 4) (λc1=>?_) (λc1=>?_)
     ·rw [cG (by simpa using c1)] at hol;obtain ⟨k,hk,hol⟩:=aD hol;obtain ⟨s1,hol⟩:=bN hol;obtain ⟨a,ha,hol⟩:=aD hol;obtain ⟨j0,j1,j2⟩:=aY hk;obtain ⟨_,_,a2⟩:=aY ha;obtain ⟨w1,d4⟩:=tP (f:=Ms hs) j2;rw [wR] at d4;have d5:=fRef_at s1 a2;refine eV λK hK=>?_;simp only [go_sem,seval,oC,qA,true_and,and_true,Bu,sR,GD,Ii,jJ,mO,wM,xed,MR,false_implies,implies_true,beq_self_eq_true,Bool.or_true,Bool.and_true,jZ hpP1,e1,e5,hc1,b10,hp2,hA,d4,d5,j1,g1,wR];refine ⟨za,?_⟩;apply hK;simp only [aR,bJ];refine bX λK hK=>?_;simp only [go_sem,seval,e39];apply hK;refine ⟨l.length,EO _,l,v+1,out++[a],rfl,hl2,za,hol,by rw [nB,tF];omega,?_⟩;refine ⟨?_,?_,?_,?_,?_,?_,?_,?_,?_,?_,?_,?_⟩
      all_goals try simp only [go_sem,seval,oC,qA,and_true,jZ hpP1,e1,e4,e5,e37,e38,hw,b0,bP1,gl2,hp2,bk,bB,dI,bZ,xds]
     ·rw [bU (by simpa using c1)] at hol;refine bL ?_
      try simp only [aR,bJ]
      refine bX λK hK=>?_;simp only [go_sem,seval,e39];apply hK;refine ⟨l.length,EO _,l,v+1,out,rfl,hl2,za,hol,za,?_⟩;refine ⟨?_,?_,?_,?_,?_,?_,?_,?_,?_,?_,?_,?_⟩
      all_goals try simp only [go_sem,seval,jZ hpP1,e1,e4,e5,e37,e38,hw,b10,b0,bP1,gl2,hp2,bk,bB]
theorem PK {P:Program} {N:Nat} {π:Pa} {k:Nat} {E:fP} {m:M} {Q:Exit->Nat->fP->M->Prop} {x:Code} (h:(∀j,k<=j->∀i,(j::π) <:+ i->m.hp i=none)->SW P N π x k E m Q):SW P N π x k E m Q:=by
 intro hf c a w h1 h2 h3;exact h (λj hj i hi=>h1.fresh_hp (h3 j hj i hi)) hf c a w h1 h2 h3
theorem oV.push {h:Hp} {W A id:Pa} {AS:List Pa} {LS:List Nat} {ws rs:List Int} {hs:List (List Int)} (k:oV h W A AS LS ws rs hs) (eZ:h id=none) (hrs:∀r ∈ rs,r<(hs.length:Int)) (x:List Int) (v:Nat) :
  oV (tH (tH h id (x.map DC)) A ((rs.map (Ac AS LS)).set v (.vec id 1 x.length))) W A (AS++[id]) (LS++[x.length]) ws (rs.set v (hs.length:Int)) (hs++[x]):=by
 have hW:W ≠ id:=λe=>by have:=k.w;rw [e,eZ] at this;cases this
 have hA:A ≠ id:=λe=>by have:=k.a;rw [e,eZ] at this;cases this
 have hn:id ∉ AS:=λe=>by
  obtain ⟨i,l,e1,e2⟩:=k.find e;have:=k.fU i id l e1 e2;rw [eZ] at this;cases this
 have hl:LS.length=AS.length:=by rw [k.ls,wM,k.len]
 refine ⟨?_,?_,k.wa,λhm=>?_,λhm=>?_,List.nodup_append.2 ⟨k.nd,zc,λa ha b hb e=>?_⟩,by rw [xds,k.ls];rfl,by simp [k.len],λi a l h1 h2=>?_⟩
 ·show (if W=A then _ else if W=id then _ else h W)=_;rw [bU k.wa,bU hW,k.w]
 ·show (if A=A then _ else _)=_;rw [cG rfl]
  congr 1
  rw [xdz,←k.len,Ls hl]
  congr 1
  exact xdr λr hr=>(NW (by rw [k.len];exact hrs r hr) hl).symm
 ·rcases BV.1 hm with hm | hm
  ·exact k.was hm
  ·exact hW (zA.1 hm)
 ·rcases BV.1 hm with hm | hm
  ·exact k.aas hm
  ·exact hA (zA.1 hm)
 ·rw [zA] at hb;subst hb;subst e;exact hn ha
 ·have hne:a ≠ A:=λe=>by
   have hm:=zX h1
   rcases BV.1 hm with hm | hm
   ·exact k.aas (by rw [←e];exact hm)
   ·exact hA (by rw [←e];exact zA.1 hm)
  show (if a=A then _ else if a=id then _ else h a)=_;rw [bU hne]
  by_cases e:i<AS.length
  ·rw [HH e] at h1;rw [HH (by rw [←k.len];exact e)] at h2;rw [bU (λe2=>hn (by rw [←e2];exact zX h1))];exact k.fU i a l h1 h2
  ·rw [GT za] at h1;rw [GT (by rw [←k.len];omega),←k.len] at h2
   have hi:i - AS.length=0:=by
    have:=(sG.1 h1).1;simp only [tF] at this;omega
   rw [hi] at h1 h2;obtain rfl:id=a:=by simpa using h1
   obtain rfl:x=l:=by simpa using h2
   rw [cG rfl]
theorem Lt {m m2:M} {q p0 p1:Pa} {c0 c1:List V} {z:Nat} {h:Hp} (h0:q <:+ p0) (h1:q <:+ p1):m.back q (m2.fr p0 p1 c0 z c1 h)=(m.back q m2).seth h:=by
 have s0:q.isSuffixOf p0=true:=GS.2 h0;have s1:q.isSuffixOf p1=true:=GS.2 h1;refine M.ext_hp (funext λi=>?_) (funext λi=>funext λo=>?_) rfl rfl rfl
 ·show (if q.isSuffixOf i then m.blk i else if i=p0 then some c0 else if i=p1 then some c1 else m2.blk i)=if q.isSuffixOf i then m.blk i else m2.blk i
  by_cases e:q.isSuffixOf i=true
  ·rw [cG e,cG e]
  ·rw [bU e,bU e,bU (λe1=>e (by rw [e1];exact s0)),bU (λe1=>e (by rw [e1];exact s1))]
 ·show (if q.isSuffixOf i then m.ver i else (m2.fr p0 p1 c0 z c1 h).ver i) o=(if q.isSuffixOf i then m.ver i else m2.ver i) o
  by_cases e:q.isSuffixOf i=true
  ·rw [cG e,cG e]
  ·rw [bU e,bU e,CY,bU];rintro ⟨rfl,_⟩;exact e s0
theorem Fk {p b:Nat}:∀ {l:List aJ} {i:Nat} {rs:List Int} {hs:List (List Int)} {z:List Int × List (List Int)},BZ p l i b rs hs=some z->(∀r ∈ rs,r<((b+hs.length:Nat):Int))->∀r ∈ z.1,r<((b+z.2.length:Nat):Int)
 | [],_,_,_,z,h,hr=>by
   rw [BZ] at h;obtain rfl:=aZ h;exact hr
 | v::l,i,rs,hs,z,h,hr=>by
   rw [BZ] at h
   split at h
   ·obtain ⟨_,h⟩:=bN h;refine Fk h λr hm=>?_;rw [nB,tF]
    rcases KM hm with hm | hm
    ·have:=hr r hm;omega
    ·omega
   ·exact Fk h hr
def Mi (f:aK->Int->T_interp_Args->Int->Option (cC × Int)):Prop:=∀a0 a1 a2 a3 r,f a0 a1 a2 a3=some r->∀(q:Pa) (m:M) (vs:List V),vs.map V.weak1=[.agg ((aK.C a0)),.lit (.int .i64 a1),.agg ((T_interp_Args.C a2)),.lit (.int .i64 a3)]/\(m.hp=λ_=>none)/\m.gl 3=.eptr [(cA bY.C eY)] 0 0->SC prog 14 vs q m (λv m'=>v=.tup [.agg ((cC.C r.1)),.lit (.int .i64 r.2)]/\m'=m)
theorem Gu (n:Nat):Mi (sB n):=by
 rintro p fn a fuel r h q m vs ⟨hv,hhp,hg⟩;refine SC.wv hv ?_;refine SC.noheap ?_;refine oE func14 call14 ntmps14 results14 ?_;have hm0:m.seth (λ_=>none)=m:=M.ext_hp rfl rfl rfl rfl hhp.symm;unfold sB at h
 repeat refine aN ?_
 refine bX λK hK=>?_;simp only [go_sem,seval,oC,qA,true_and];apply hK
 repeat refine aN ?_
 by_cases hr:fn<0 ∨ (p.aU.length:Int)<=fn
 ·rw [cG hr] at h;obtain rfl:=aZ h
  have hcond:decide (fn<0)=true ∨ (decide (fn<0)=false/\decide ((p.aU.length:Int)<=fn)=true):=by
   by_cases e:fn<0
   ·exact .inl (vO e)
   ·exact .inr ⟨Om e,vO (hr.resolve_left e)⟩
  refine rE 13 (λE' m'=>E' 24=.lit (.bool true)/\E' 8=.ptr (2::q) 0/\m'.blk (2::q)=some [.lit (.int .i64 0),.lit (.int .u64 0),.list .self [],.list .self []]/\m.back q m'=m) ?_ ?_
  ·rcases hcond with c1 | ⟨c1,c2⟩
   ·refine kM λK hK=>?_;simp only [go_sem,seval,c1];apply hK;refine ⟨zb,?_⟩;simp only [go_sem,seval,and_true,bB,bG]
   ·refine kM λK hK=>?_;simp only [go_sem,seval,xdw,and_true,sR,wM,c1,c2];apply hK;refine ⟨zb,?_⟩;simp only [go_sem,seval,and_true,bB,bG]
  ·rintro E1 m1 ⟨e24,e8,b2,bk⟩ _;simp only [aR]
   repeat refine aN ?_
   refine mA true (by simp only [go_sem,e24]) ?_;simp only [↓reduceIte]
   repeat refine aN ?_
   refine bX λK hK=>?_;simp only [go_sem,seval,qA,true_and,GD,Ii,jJ,mO,e8,b2];apply hK;refine cB ?_
   try simp only [cE]
   refine ⟨by first | exact .inl rfl | exact .inl trivial,?_⟩;simp only [go_sem,seval,oC,qA,true_and,and_true,sR,Gq,Gp,jJ,mO,e8,bB,dI,bk,hm0];rfl
 ·rw [bU hr] at h;obtain ⟨f,hf,h⟩:=aD h;obtain ⟨i0,i1,i2⟩:=aY hf;obtain ⟨o,ho,h⟩:=aD h;obtain ⟨ft,hft,h⟩:=aD h;have c1:decide (fn<0)=false:=Om za;have c2:decide ((p.aU.length:Int)<=fn)=false:=Om za;refine bX λK hK=>?_;simp only [go_sem,seval,xdw,and_true,sR,wM,c1,c2];apply hK
  repeat refine aN ?_
  refine mA false (by simp only [go_sem,↓reduceIte]) ?_;simp only [↓reduceIte,Bt];refine bL ?_
  try simp only [aR]
  repeat refine aN ?_
  refine bX λK hK=>?_;simp only [go_sem,seval,xdw,oC,qA,FI,wN,ER,true_and,and_true,sR,Gq,Gp,jJ,mO,wM,AJ,implies_true,i0,i1,i2];refine SC.mono (Qf (b:=0) ho _ _ _ [] [] rfl rfl (by simp only [go_sem,oC,qA,aP.C_eq])) ?_;rintro _ _ ⟨AS2,h',rfl,rfl,hO⟩;simp only [go_sem,seval];apply hK
  have kB:oV h' (6::18::q) (10::18::q) AS2 (o.2.map List.length) o.1.bP o.1.aX o.2:=by
   refine ⟨hO.w,by simpa using hO.a,zc,λhm=>?_,λhm=>?_,hO.nd,rfl,hO.len,hO.fU⟩
   ·obtain ⟨j,i,e⟩:=hO.un _ hm;have:=vJ List.length e;simp only [jJ] at this;omega
   ·obtain ⟨j,i,e⟩:=hO.un _ hm;have:=vJ List.length e;simp only [jJ] at this;omega
  have hof:o.1.f_=f/\0<=f.aQ/\f.aQ<=(f.aO.length:Int)/\f.aO.length<=1000000:=by
   unfold uF at ho;obtain ⟨⟨q1,q2,q3⟩,ho⟩:=bN ho;obtain ⟨_,_,ho⟩:=aD ho;obtain rfl:=aZ ho;exact ⟨rfl,q1,q2,q3⟩
  obtain ⟨hof,hp0,hp1,hvl⟩:=hof
  repeat refine aN ?_
  refine eV λK hK=>?_;simp only [go_sem,seval,oC,qA,wN,ER,true_and,and_true,sR,Gq,Gp,jJ,mO,hof];refine SC.by_ (JO n f a _ hft _ _ _ (by simp only [go_sem,oC,qA])) ?_;simp only [go_sem,seval,true_and,jJ,mO];apply hK;simp only [aR]
  repeat refine aN ?_
  cases ft with
  | false=>
    rw [cG rfl] at h;obtain rfl:=aZ h;refine mA true (by simp only [go_sem,↓reduceIte,Bool.not_false]) ?_;simp only [↓reduceIte]
    repeat refine aN ?_
    refine bX λK hK=>?_;simp only [go_sem,seval,qA,true_and,GD,Ii,jJ,mO,Bool.not_false];apply hK;refine cB ?_
    try simp only [cE]
    refine ⟨by first | exact .inl rfl | exact .inl trivial,?_⟩;simp only [go_sem,seval,oC,qA,true_and,and_true,sR,Gq,Gp,jJ,mO,bB,dI,jQ,yE,bG,hm0];rfl
  | true=>
    rw [bU zc] at h;obtain ⟨t,ht,h8⟩:=aD h;obtain ⟨b,hb,h9⟩:=aD h8;refine mA false (by simp only [go_sem,↓reduceIte,Bool.not_true]) ?_;simp only [↓reduceIte,Bt];refine bL ?_
    try simp only [aR]
    repeat refine aN ?_
    refine bX λK hK=>?_;simp only [go_sem,Nat.reduceAdd,Bool.not_true];apply hK
    repeat refine aN ?_
    refine eV λK hK=>?_;simp only [go_sem,seval,FI,xej,true_and,Bu,sR,jJ,mO,wM,implies_true,hp0,hp1];apply hK;refine cK ?_;obtain ⟨np,hnp⟩:∃np:Nat,f.aQ.toNat=np:=⟨_,rfl⟩;rw [hnp] at ht;simp only [hnp];have hpl:np<=f.aO.length:=za
    have hor:∀r ∈ o.1.aX,r<(o.2.length:Int):=by
     unfold uF at ho;obtain ⟨_,ho⟩:=bN ho;obtain ⟨z,hz,ho⟩:=aD ho;obtain rfl:=aZ ho;have:=Fk hz (λr hr=>by rw [(PR.1 hr).2];omega);simpa using this
    refine FE (λc E' m'=>∃(l:List aJ) (v w k:Nat) (to:aI) (hs2:List (List Int)) (AS:List Pa) (LS:List Nat),c=l.length/\(f.aO.take np).drop v=l/\v<=(f.aO.take np).length/\w<=v/\k<=v/\sF a l v w k to hs2=some t/\to.f_=f/\(∀r ∈ to.aX,r<(hs2.length:Int)) ∧
     E' 3=.lit (.int .i64 fuel)/\E' 4=.ptr (0::q) 0/\E' 6=.ptr (1::q) 0/\E' 8=.ptr (2::q) 0/\E' 10=.ptr (12::18::q) 0/\E' 11=.lit (.int .i64 (w:Int))/\E' 12=.lit (.int .i64 (k:Int))/\E' 50=.list .none ((f.aO.take np).map aJ.C)/\E' 51=.lit (.int .i64 ((f.aO.take np).length:Int))/\E' 52=.lit (.int .i64 (v:Int)) ∧
     m'.blk (0::q)=some (aK.C p)/\m'.blk (1::q)=some (T_interp_Args.C a)/\m'.blk (2::q)=some [.lit (.int .i64 0),.lit (.int .u64 0),.list .self [],.list .self []]/\m'.blk (12::18::q)=some (Eo (6::18::q) (10::18::q) to)/\m'.gl=m.gl/\m.back q m'=m.seth m'.hp/\oV m'.hp (6::18::q) (10::18::q) AS LS to.bP to.aX hs2) (f.aO.take np).length ?_ ?_
    ·refine ⟨f.aO.take np,0,0,0,o.1,o.2,AS2,o.2.map List.length,rfl,rfl,HI _,tW _,tW _,ht,hof,hor,?_⟩;refine ⟨?_,?_,?_,?_,?_,?_,?_,?_,?_,?_,?_,?_,?_,?_,?_,?_,?_⟩
     all_goals try simp only [go_sem,seval,xdw,and_true,EC,aK.C_eq,T_interp_Args.C_eq,bB,jQ,bG,hof,kB]
    ·rintro i c E1 m1 ⟨l,v,w,k,to,hs2,AS,LS,rfl,hl,hvl1,hwv,hkv,hra,htf,hrk,e3,e4,e6,e8,e10,e11,e12,e50,e51,e52,b0,b1,b2,b12,gl1,bk,kT⟩ _;have hc:=b12;simp only [go_sem] at hc;refine qT λK hK=>?_;simp only [go_sem,e51,e52];apply hK;refine aN ?_;cases l with
     | nil=>
       have hvv:¬ v<(f.aO.take np).length:=by
        have:=vJ List.length hl;simp only [HG,mO] at this;omega
       refine mA false (by simp only [go_sem,↓reduceIte];exact vJ (λb=>V.lit (.bool b)) (Om (by simp only [EC] at hvv ⊢;omega))) ?_;simp only [↓reduceIte,Bt];refine gE ?_
       try simp only [cV,cM,↓reduceIte,aR]
       rw [sF] at hra;obtain rfl:=aZ hra
       repeat refine aN ?_
       refine bX λK hK=>?_;simp only [go_sem,seval,oC,qA,wN,EP,true_and,and_true,Bu,sR,Gq,Gp,jJ,mO,KJ,ED,e3,e4,b0,aK.C_eq];apply hK
       repeat refine aN ?_
       refine bX λK hK=>?_;have gl2:m1.gl 3=_:=(congrFun gl1 _).trans hg;simp only [go_sem,seval,oC,qA,wN,ER,Bu,sR,e10,hc,htf];refine SC.mono (CB n ⟨p,fuel,0,0,[]⟩ to hs2 f.bR _ hb _ _ _ (46::q) (12::18::q) (m1.ver (46::q) 4) (6::18::q) (10::18::q) AS LS (by simp only [go_sem,seval,oC,qA,wN,EP,and_true,mO,hc,htf,kT,gl2])) ?_;rintro _ _ ⟨rfl,rfl,kp⟩;simp only [go_sem,Nat.reduceAdd,wN,EP];apply hK
       repeat refine aN ?_
       refine bX λK hK=>?_;simp only [go_sem,seval,true_and,Bu,sR];apply hK
       repeat refine aN ?_
       refine HA (b.1.e_ != (0:Int)) (λc1=>?_) (λc1=>?_)
       ·rw [cG (by simpa using c1)] at h9;obtain rfl:=aZ h9
        repeat refine aN ?_
        refine eV λK hK=>?_;simp only [go_sem,seval,qA,true_and,and_true,Bu,sR,GD,Ii,jJ,mO,e8,b2];apply hK;refine cB ?_
        try simp only [cE]
        refine ⟨by first | exact .inl rfl | exact .inl trivial,?_⟩;simp only [go_sem,↓reduceIte,Nat.reduceEqDiff,Nat.reduceAdd,oC,qA,true_and,and_true,sR,Gq,Gp,jJ,mO,e8,bB,dI,yE,Lt (show q <:+ 46::q from QU _ _) (show q <:+ 12::18::q from ⟨[12,18],rfl⟩),bk,hm0];rfl
       ·rw [bU (by simpa using c1)] at h9;obtain ⟨x,hx,h10⟩:=aD h9;obtain rfl:=aZ h10;refine bL ?_
        try simp only [aR]
        repeat refine aN ?_
        refine bX λK hK=>?_;simp only [go_sem,seval,oC,qA,wN,ER];refine SC.mono (OX hx _ _ _ (46::q) (12::18::q) (m1.ver (46::q) 4) (6::18::q) (10::18::q) AS LS (by simp only [go_sem,oC,qA,e10]) (by simp only [go_sem,↓reduceIte,wN,EP,KY]) (by simp only [go_sem,seval]) (by simp only [go_sem,↓reduceIte,and_true]) (by simp only [go_sem];exact oV.upk kT kp) zc zc) ?_;rintro _ _ ⟨h3,rfl,rfl⟩;simp only [go_sem,seval,true_and,and_true,GD,Ii,jJ,mO,e8,b2];apply hK;refine cB ?_;refine ⟨by first | exact .inl rfl | exact .inl trivial,?_⟩;simp only [go_sem,↓reduceIte,Nat.reduceEqDiff,Nat.reduceAdd,oC,qA,and_true,sR,Gq,Gp,jJ,mO,e8,bB,yE,Lt (show q <:+ 46::q from QU _ _) (show q <:+ 12::18::q from ⟨[12,18],rfl⟩),bk,hm0]
     | cons x l=>
       have hvb:v<(f.aO.take np).length:=by
        have:=vJ List.length hl;simp only [HG,jJ] at this;omega
       have hx:(f.aO.take np)[v]? = some x:=by
        have:=vJ List.head? hl;simpa [Td] using this
       have hl2:(f.aO.take np).drop (v+1)=l:=by
        have:=vJ List.tail hl;rw [List.tail_drop] at this;exact this
       have hnl:(f.aO.take np).length<=1000000:=by rw [EC];omega
       have g1:(0:Int)<=(v:Int):=SR _;have g2:(v:Int)<((f.aO.take np).length:Int):=za
       have g3:(0:Int)<=(w:Int):=SR _;have g4:(0:Int)<=(k:Int):=SR _;have hw:i64.wrap ((v:Int)+1)=((v+1:Nat):Int):=by rw [fD za za];omega
       have hw2:i64.wrap ((w:Int)+1)=((w+1:Nat):Int):=by rw [fD za za];omega
       have hw3:i64.wrap ((k:Int)+1)=((k+1:Nat):Int):=by rw [fD za za];omega
       refine mA true (by simp only [go_sem,↓reduceIte];exact vJ (λb=>V.lit (.bool b)) (vO g2)) ?_;simp only [↓reduceIte];refine bL ?_
       refine aN (cK (qT λK hK=>?_));simp only [go_sem,seval,oC,qA,FI,true_and,sR,Gq,Gp,GD,Ii,jJ,mO,wM,AJ,implies_true,e50,e52,g1,g2,wR,hx];apply hK
       repeat refine aN ?_
       refine bX λK hK=>?_;simp only [go_sem,seval,Bu,sR];apply hK;rw [sF] at hra;refine HA (x.bF == 4) (λc1=>?_) (λc1=>?_)
       ·rw [cG (by simpa using c1)] at hra;obtain ⟨y,hy,hra⟩:=aD hra;obtain ⟨⟨s1,s2,s3⟩,hra⟩:=bN hra;obtain ⟨j0,j1,j2⟩:=aY hy;rw [wR] at j2;refine aN (PK λhfr2=>?_);have q0:m1.hp (5::20::i::42::q)=none:=by have:=hfr2 20 za (5::20::i::42::q) ⟨[5],rfl⟩;simpa only [go_sem,↓reduceIte,Nat.reduceEqDiff,Nat.reduceAdd,Nat.reduceSub,Nat.reduceMul,Nat.reduceLT,Nat.reduceLeDiff,Nat.reduceBEq,Nat.reduceBNe,reduceCtorEq,xdw,Nat.one_ne_zero,oC,qA,xep,FI,xej,wN,ER,EP,true_and,and_true,Bu,sR,Gq,Gp,GD,Ii,jJ,mO,wM,KJ,ED,AJ,xed,MR,false_implies,implies_true,Bool.not_true,Bool.not_false,beq_self_eq_true,Bool.or_true,Bool.true_or,Bool.and_true,Bool.true_and] using this
        refine eV λK hK=>?_;simp only [go_sem,seval,oC,qA,FI,wN,ER,true_and,Bu,sR,jJ,mO,wM,AJ,implies_true,e6,e10,e12,b1,T_interp_Args.C_eq,hc,g4,j1,j2,wR];refine SC.by_ (UT (l:=y) s1 s2 _ _ _ (by simp only [go_sem,oC,qA])) ?_;have s4:(v:Int)<(to.aX.length:Int):=za
        have s5:v+1<=to.aX.length:=za
        simp only [go_sem,seval,oC,qA,true_and,and_true,Bu,sR,jJ,mO,wM,hc,g1,s4,s5,wR,kT.a];apply hK;refine qT λK hK=>?_;simp only [go_sem,seval,e12,hw3];apply hK;refine gE ?_
        try simp only [cV,cM,↓reduceIte,aR]
        refine bX λK hK=>?_;simp only [go_sem,seval,e52];apply hK;refine ⟨l.length,EO _,l,v+1,w,k+1,{ to with aX:=to.aX.set v (hs2.length:Int) },hs2++[y],AS++[5::20::i::42::q],LS++[y.length],rfl,hl2,za,za,za,hra,htf,λr hr=>?_,?_⟩
        ·rw [nB,tF]
         rcases KM hr with hr | hr
         ·have:=hrk r hr;omega
         ·omega
        refine ⟨?_,?_,?_,?_,?_,?_,?_,?_,?_,?_,?_,?_,?_,?_,?_,?_,?_⟩
        all_goals try simp only [go_sem,seval,e3,e4,e6,e8,e10,e11,e50,e51,hw,b0,b1,b2,hc,gl1,bk,yS,aK.C_eq,T_interp_Args.C_eq,bB,jQ,yE,gR]
        exact oV.push kT q0 hrk y v
       ·rw [bU (by simpa using c1)] at hra;obtain ⟨y,hy,hra⟩:=aD hra;obtain ⟨s1,hra⟩:=bN hra;obtain ⟨j0,j1,j2⟩:=aY hy;rw [wR] at j2;refine bL ?_
        try simp only [aR]
        repeat refine aN ?_
        refine eV λK hK=>?_;simp only [go_sem,seval,oC,qA,FI,true_and,Bu,sR,jJ,mO,wM,AJ,implies_true,e6,e10,e11,b1,T_interp_Args.C_eq,hc,g1,g3,j1,j2,wR,kT.w];refine ⟨za,za,?_⟩;apply hK;simp only [aR]
        repeat refine aN ?_
        refine kM λK hK=>?_;simp only [go_sem,seval,e11,hw2];apply hK;simp only [aR,bJ];refine bX λK hK=>?_;simp only [go_sem,seval,e52];apply hK;refine ⟨l.length,EO _,l,v+1,w+1,k,{ to with bP:=to.bP.set v y },hs2,AS,LS,rfl,hl2,za,za,za,hra,htf,hrk,?_⟩;refine ⟨?_,?_,?_,?_,?_,?_,?_,?_,?_,?_,?_,?_,?_,?_,?_,?_,?_⟩
        all_goals try simp only [go_sem,seval,e3,e4,e6,e8,e10,e12,e50,e51,hw,b0,b1,b2,hc,gl1,bk,yS,aK.C_eq,T_interp_Args.C_eq,bB,jQ,yE,gR,oV.setW kT]
        exact kT.up rfl
