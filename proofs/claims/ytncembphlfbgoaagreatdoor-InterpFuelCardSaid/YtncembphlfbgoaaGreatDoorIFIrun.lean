/- Lemmas of ours. -/
import Derived.Test.YtncembphlfbgoaaGreatDoorIFGIx
namespace Go.Proofs.YtncembphlfbgoaaGreatDoor.Abs
open Go.RowKit Tryz
open IntKind (i64 u32 u64 u8)
set_option linter.unusedVariables false
set_option maxRecDepth 10000
theorem SW_reg1 {P:Program} {N:Nat} {π:Pa} {k:Nat} {E:eA} {m:M} {Q:Exit->Nat->eA->M->Prop} {id:Nat} {o:Oper} {os:List Oper} (v0 u0:V) (hg:o.guard=none) (hwk:∀(c:Conc) (x:Value),CR c [v0] [x]->CR c [u0] [x]) (h1:dX P o (k::π) E m (fun v m1=>v=v0/\m1=m))
  (h:∀K:Nat->eA->M->Prop,(∀k E m,Q .normal k E m->K k E m)->iW P (o::os) π K os (k+1) (gD o.dst u0 E) m):SW P N π (.region id (o::os).toArray false) k E m Q:=by
 intro hf c a w hR hE hF;have h:=h (Q .normal) fun _ _ _ x=>x;have hfit:wD N (o::os)=true:=by simpa [Bv] using hf
 have hfit2:=hfit;simp only [wD,List.all_cons,Fi] at hfit2
 have hfo:∀d,o.dst=some d->d<N:=by
  intro d hd;have:=hfit2.1;rw [hd] at this;simpa using this
 refine wp_region_list ?_;show wpList P _ _ (o::os) a w;refine BigFrame.wpList_want (by simp [Region.wanted,hg]) fun K' hK'=>?_;refine Oper.wp_mono ?_ (tW (N:=N) h1 hR hE hF.gC hfo _);rintro a' w' ⟨c',v,m',⟨rfl,rfl⟩,g1,g2,g3,g4⟩
 have g5:lA c' (gD o.dst u0 E) a' N:=by
  refine ⟨g3.size,fun t=>?_⟩;have:=g3.gC t;cases hd:o.dst with
  | none=>rw [hd] at this;exact this
  | some d=>
    rw [hd] at this;show CR c' [if t=d then u0 else E t] _;have e:gD (some d) v E t=if t=d then v else E t:=rfl;rw [e] at this
    by_cases ht:t=d
    ·rw [if_pos ht] at this ⊢;exact hwk c' _ this
    ·rw [if_neg ht] at this ⊢;exact this
 refine hK' a' w' (Nm (full:=(o::os).toArray) (W:=wr (.region id (o::os).toArray false)) (E0:=E) (c0:=c) (m0:=m') (w0:=w) (a0:=a) (K:=Q .normal) (fun a' w' hp=>hp) os (k+1) _ c' m' w' a' (by simpa using h) hfit2.2 g1 g5 (g2.freshK hF) g2.up (g4) (fun t ht=>?_) (fun o' ho' d hd=>?_))
 ·cases hd:o.dst with
  | none=>rfl
  | some d=>
    show (if t=d then u0 else E t)=E t;rw [if_neg];rintro rfl
    have:wr (.region id (o::os).toArray false) t=true:=by
     simp only [wr,xea,beq_iff_eq];exact ⟨o,by simp,hd⟩
    rw [this] at ht;cases ht
 ·simp only [wr,xea,beq_iff_eq];exact ⟨o',by simp [ho'],hd⟩
theorem OW {P:Program} {N:Nat} {π:Pa} {k:Nat} {E:eA} {m:M} {Q:Exit->Nat->eA->M->Prop} {id t d1 d2:Nat} {T T1 T2 T3:TypeId} {e:TypeId} {p1 p2:String} {a1 a2:Array Edge} {o:Hl} {r:List V} {rows:List (List V)} (hx:E t=.list o (r::rows)) (hT:P.underlying T=some (.slice e))
  (h:Q .normal (k+2) (Pn (Pn E d1 (.list o (r::rows))) d2 (.lit (.bool false))) m):SW P N π (.region id #[⟨some d1,.move (.tmp t),T1,p1,a1,none⟩,⟨some d2,.binOp .eql T (.tmp d1) (.const (.slice none 0 0)) T2,T3,p2,a2,none⟩] false) k E m Q:=by
 intro hf c a w hR hE hF
 have hd:d1<N/\d2<N:=by
  simpa [Bv,wD] using hf
 refine wp_region_list ?_;refine BigFrame.wpList_want (by simp [Region.wanted]) fun K1 hK1=>?_;have s1:dX P ⟨some d1,.move (.tmp t),T1,p1,a1,none⟩ (k::π) E m (fun v m1=>v=.list o (r::rows)/\m1=m):=⟨hx,rfl⟩;refine Oper.wp_mono ?_ (tW (N:=N) s1 hR hE hF.gC (fun d e=>by injection e with e;rw [←e];exact hd.1) _);rintro a' w' ⟨c',v,m',⟨rfl,rfl⟩,g1,g2,g3,g4⟩;refine hK1 a' w' ?_;refine BigFrame.wpList_want (by simp [Region.wanted]) fun K2 hK2=>?_
 have hv:CR c' [.list o (r::rows)] [a'.tmps.getD d1 undef]:=by
  have:=g3.gC d1;have e:gD (some d1) (V.list o (r::rows)) E d1=.list o (r::rows):=if_pos rfl;rw [e] at this;exact this
 obtain ⟨ad,cap,es,sz,he,k1,k2,kz,k3,k4,k5,_⟩:=hv.inv_list;obtain ⟨b,off,rfl⟩:=k5 (by simp)
 have hrun:(execOp a'.eval ⟨some d2,.binOp .eql T (.tmp d1) (.const (.slice none 0 0)) T2,T3,p2,a2,none⟩).run P w'=.ok (.value (.bool false)) w':=by
  have e1:a'.eval (.tmp d1)=.slice (some ⟨b,off,none⟩) (r::rows).length cap:=he;have e2:a'.eval (.const (.slice none 0 0))=.slice none 0 0:=rfl;show Sem.run P (do pure (Next.value (←(do eqGuard .eql T (.tmp d1) (.const (.slice none 0 0)) (a'.eval (.tmp d1)) (a'.eval (.const (.slice none 0 0)));binOp .eql T (a'.eval (.tmp d1)) (a'.eval (.const (.slice none 0 0))):Sem Value)))) w'=_;rw [e1,e2]
  have heq:∀d n c,(Op.equalIn (d+1) T (.slice (some ⟨b,off,none⟩) n c) (.slice none 0 0)).run P w'=.ok false w':=fun d n c=>by
   unfold Op.equalIn;simp [run_underlying hT]
  have heq2:∀n c,(Op.equal T (.slice (some ⟨b,off,none⟩) n c) (.slice none 0 0)).run P w'=.ok false w':=fun n c=>heq _ n c;simp [eqGuard,binOp,heq2]
 refine Oper.wp_mono ?_ (iJ (C:=fun v m1=>v=.lit (.bool false)/\m1=m') (q:=(k+1)::π) g3 (fun d e=>by injection e with e;rw [←e];exact hd.2) hrun ⟨rfl,rfl⟩ g1 (.refl _ c' m' w') (.lit .nil));rintro a'' w'' ⟨c'',v,m'',⟨rfl,rfl⟩,q1,q2,q3,q4⟩;refine hK2 a'' w'' ⟨c'',k+2,_,m'',h,q1,g2.up.trans q2.up,q3,?_,q4.trans g4,fun t ht=>?_⟩
 ·exact q2.freshK (g2.freshK hF)
 ·have h0:t ≠ d1/\t ≠ d2:=by
   simp only [wr,List.any_cons,List.any_nil,Bool.or_false,xdy] at ht;exact ⟨fun e=>by rw [e] at ht;simp at ht,fun e=>by rw [e] at ht;simp at ht⟩
  show (if t=d2 then _ else if t=d1 then _ else E t)=E t;rw [if_neg h0.2,if_neg h0.1]
theorem Na:∀ {l:List Int},List.map V.toHp (List.map (cI .u32) l).flatten=List.map By l
 | []=>rfl
 | x::l=>by
   rw [mK,FY,JC,Na,mK];rfl
theorem QW {l:List Int} (hl:0<l.length) (hl2:l.length<=1073741824) (q:Pa) (m:M) (vs:List V) (hv:vs.map V.weak1=[.list .none (l.map (cI .u32))]) :
  SC prog 46 vs q m (fun v m'=>v=.vec (5::q) 1 l.length/\m'=m.hset (5::q) (l.map By)):=by
 refine SC.wv hv (dZ func46 call46 ntmps46 results46 ?_);refine aM ?_;simp only [go_sem];obtain ⟨x,l,rfl⟩:∃x l',l=x::l':=by cases l with | nil=>simp at hl | cons x l=>exact ⟨x,l,rfl⟩
 refine aF (aF (OW (e:=23) (o:=.none) (r:=cI .u32 x) (rows:=l.map (cI .u32)) (by simp only [go_sem,seval,mK,mK]) (by kernel_rfl) ?_));refine iB false (by simp only [go_sem,↓reduceIte,mK]) ?_;simp only [↓reduceIte,xX];refine aV ?_
 refine aF (SW_reg1 (.list .exact []) .nilv rfl (fun c x hx=>?_) ?_ fun K hK=>?_)
 ·obtain ⟨a,cap,es,sz,rfl,k1,k2,kz,k3,k4,k5,k6,kc,k7⟩:=hx.inv_list;obtain ⟨rfl,_⟩:=k7;exact .nilv .nil
 ·simp only [dX];simp only [go_sem,Nat.reduceLT,mK,oL,and_true,lD]
 ·simp only [go_sem,seval,mK,true_and,and_true,jK,lD,uQ,xeb,implies_true,mK];refine ⟨by omega,by simp only [jK] at hl2;omega,?_⟩;apply hK;refine aQ ?_;refine ⟨by first | exact .inl rfl | exact .inl trivial,?_⟩;simp only [go_sem,↓reduceIte,mK,tS,BB,true_and,jK,mK,FY,rG,iH,aJ];rw [Na]
theorem fW.reHp {c:Conc} {m:M} {w:World} (h:fW c m w) {A:Pa} {vs us:List V} (hv:m.hp A=some vs) (hw:KS c vs us) (q:Pa):fW c (m.hset A us) w/\Abs.mL q c m w c (m.hset A us) w:=by
 obtain ⟨b,n,hk,cs,t,hB,hl,hcr,hone⟩:=h.hpr A vs hv;have hlen:=hw.len;exact h.hwrite q hv hk hB hB rfl (World.grownBy.refl _ _) (by rw [hlen];exact hl) (by rw [hlen];exact KS.ok (.refl c) hw hcr) hone
def Jf (hs:List (List Int)) (k:Int):V:=if k<0 then .nilv else .list .none ((hs.getD k.toNat []).map (cI .u32))
theorem SW_frz {P:Program} {N:Nat} {π:Pa} {k:Nat} {E:eA} {m:M} {Q:Exit->Nat->eA->M->Prop} {code:Code} {W A:Pa} {AS:List Pa} {LS:List Nat} {ws rs:List Int} {hs:List (List Int)} (kk:nK m.hp W A AS LS ws rs hs) (hrs:∀i ∈ rs,i<(hs.length:Int))
  (h:∀h':Hp,h' A=some (rs.map (Jf hs))->SW P N π code k E (m.seth h') Q):SW P N π code k E m Q:=by
 intro hf c a w h1 h2 h3
 obtain ⟨c',g1,g2,g3⟩:=h1.freezeL AS (fun id hi=>by
  obtain ⟨i,l,e1,e2⟩:=kk.find hi;rw [kk.gC i id l e1 e2];simp)
 have hA:(m.seth (Ch m.hp AS)).hp A=some (rs.map (xB AS LS)):=by
  show (if A ∈ AS then none else m.hp A)=_;rw [if_neg kk.aas,kk.a]
 have hw:∀l:List Int,(∀i ∈ l,i<(hs.length:Int))->KS c' (l.map (xB AS LS)) (l.map (Jf hs)):=by
  intro l
  induction l with
  | nil=>intro _;exact trivial
  | cons i l ih=>
    intro hl;refine ⟨?_,ih fun j hj=>hl j (by simp [hj])⟩
    by_cases hi:i<0
    ·have e1:xB AS LS i=.nilv:=if_pos hi;have e2:Jf hs i=.nilv:=if_pos hi;rw [e1,e2];exact Wk.refl _ _
    ·have hil:=hl i (by simp);have hit:i.toNat<hs.length:=by omega
     obtain ⟨x,e1,e2,e3,_,_⟩:=kk.get (i:=i) (by omega) (tH hit)
     have e4:Jf hs i=.list .none (hs[i.toNat].map (cI .u32)):=by
      unfold Jf;rw [if_neg hi,JA,tH hit];rfl
     rw [e1,e4]
     have:=g3 x (AT e3) _ e2 1 (hs[i.toNat].map (cI .u32)) (by
      rw [uQ,Pt,xeh (by rw [uQ];exact sU _)]
      generalize hs[i.toNat]=l
      induction l with
      | nil=>rfl
      | cons y l ih=>rw [mK,mK,FY,←ih];rfl) (fun r hr=>by
      obtain ⟨y,_,rfl⟩:=EG.1 hr;rfl)
     rw [uQ] at this;exact this
 obtain ⟨r1,r2⟩:=g1.reHp hA (hw rs hrs) π;have hX:=(g2 π).trans r2;refine wp_mono (h ((m.seth (Ch m.hp AS)).hset A (rs.map (Jf hs))).hp (by show (if A=A then _ else _)=_;rw [if_pos rfl]) hf c' a w r1 ⟨h2.size,fun t=>(h2.gC t).mono hX.le⟩ (fun j hj id eI=>?_)) fun e a' w' hp=>?_
 ·exact ((g2 (0::id)).trans (g1.reHp hA (hw rs hrs) (0::id)).2).fresh id (fun hs=>by have:=hs.length_le;simp only [jK] at this;omega) (h3 j hj id eI)
 ·exact hp.trans hX rfl (fun _ _=>rfl) (fun t ht=>⟨ht,ht⟩)
theorem fRef_at {hs:List (List Int)} {k:Int} {l:List Int} (h0:0<=k) (h:hs[k.toNat]? = some l):Jf hs k=.list .none (l.map (cI .u32)):=by
 unfold Jf;rw [if_neg (by omega),JA,h];rfl
theorem LH {rn:aE} {fr:aK} {hs:List (List Int)} {x:eF} (h:DL rn fr hs=some x) (q:Pa) (m:M) (vs:List V) (P0 P1:Pa) (z:Nat) (W A:Pa) (AS:List Pa) (LS:List Nat) (hv:vs.map V.weak1=[.ptr P0 0,.ptr P1 0]) (hmP0:m.blk P0=some (HX rn)) (hmP1:m.blk P1=some (Cj W A fr)) (hvr:m.ver P0 4=z+rn.bT.length) (hkF:nK m.hp W A AS LS fr.cC fr.cK hs) (hn01:(P0=P1)=False) (hn10:(P1=P0)=False) :
  SC prog 48 vs q m (fun v m'=>∃h',v=.agg (eF.C x)/\m'=m.seth h'):=by
 refine SC.wv hv ?_;refine SC.apart hmP0 fun hpP0=>?_;refine SC.apart hmP1 fun hpP1=>?_;refine dZ func48 call48 ntmps48 results48 ?_;unfold DL at h;obtain ⟨⟨hrs,hp0,hp1,hvl⟩,h⟩:=bS h;obtain ⟨oa,hoa,h⟩:=aA h;obtain rfl:=bV h;refine SW_frz hkF hrs fun h' hA=>?_;have hb0:=hmP0;have hb1:=hmP1;simp only [go_sem,tS,BB,HX] at hb0 hb1
 repeat refine aF ?_
 refine aN fun K hK=>?_;simp only [go_sem,mK,oL];apply hK
 repeat refine aF ?_
 refine dR (o0 [0,1,2,3,4,5,6,7,8,9,10]) 12 fun K hK=>?_;simp only [go_sem,seval,mK,oL,tS,Ef,BB,true_and,and_true,zB,qU,CY,AQ,En,FI,jK,lD,Pu,Lh,fC hpP0,hb0];apply hK;simp only [aL]
 repeat refine aF ?_
 refine aN fun K hK=>?_;simp only [go_sem,seval,and_true,zB,qU,fC hpP0,hb0];apply hK;refine gN 23 (fun E' m'=>E' 0=.ptr P0 0/\E' 1=.ptr P1 0/\E' 4=.ptr (0::q) 0/\E' 5=.ptr (10::q) 0/\m'.blk (10::q)=some [.lit (.int .i64 rn.fP),.lit (.int .u64 (if rn.fP=0 then fr.qH else 0)),.list .self [],.list .none (rn.bT.map bA.C)]/\m'.blk (0::q)=some [.lit (.int .i64 0),.lit (.int .u64 0),.list .self [],.list .self []]/\m'.blk P0=m.blk P0/\m'.blk P1=m.blk P1/\m'.gl=m.gl/\m'.hp=h'/\m.back q m'=m.seth h') ?_ ?_
 ·refine Fd (rn.fP == 0) (fun c1=>?_) (fun c1=>?_)
  ·refine fB fun K hK=>?_;simp only [go_sem,seval,true_and,zB,qU,En,FI,jK,lD,fC hpP1,hb1];apply hK;refine ⟨by decide,?_⟩;rw [if_pos (by simpa using c1)];simp only [go_sem,seval,and_true,fC hpP0,fC hpP1,aO,cM,iH,aJ]
  ·refine aV ?_;refine ⟨by decide,?_⟩;rw [if_neg (by simpa using c1)];simp only [go_sem,seval,and_true,fC hpP0,fC hpP1,aO,cM,iH,aJ]
 ·rintro E1 m1 ⟨e0,e1,e4,e5,b10,b0,bP0,bP1,gl1,hp1',bk⟩ _;simp only [aL];have hc1:=bP1.trans hmP1;simp only [go_sem] at hc1
  repeat refine aF ?_
  refine dR (o0 [0,1,2,3,4,5,6,7,8,9,10,11,12]) 36 fun K hK=>?_;simp only [go_sem,seval,Ee,xeg,true_and,zB,qU,AQ,jK,lD,uQ,implies_true,e1,hc1,hp0,hp1];apply hK;refine bN ?_;obtain ⟨p,hp⟩:∃p:Nat,fr.f_.bD.toNat=p:=⟨_,rfl⟩;rw [hp] at hoa;simp only [hp];have hpl:p<=fr.f_.bB.length:=by omega
  have hlen:(fr.f_.bB.take p).length=p:=by rw [EF];omega
  refine DF (fun c E' m'=>∃(l:List aZ) (v:Nat) (out:List (List Int)),c=l.length/\(fr.f_.bB.take p).drop v=l/\v<=(fr.f_.bB.take p).length/\Kj hs l v fr.cK out=some oa/\out.length<=v ∧
   E' 1=.ptr P1 0/\E' 4=.ptr (0::q) 0/\E' 5=.ptr (10::q) 0/\E' 37=.list .none ((fr.f_.bB.take p).map aZ.C)/\E' 38=.lit (.int .i64 ((fr.f_.bB.take p).length:Int))/\E' 39=.lit (.int .i64 (v:Int)) ∧
   m'.blk (10::q)=some [.lit (.int .i64 rn.fP),.lit (.int .u64 (if rn.fP=0 then fr.qH else 0)),.list .self (out.map (cL (cI .u32))),.list .none (rn.bT.map bA.C)]/\m'.blk (0::q)=some [.lit (.int .i64 0),.lit (.int .u64 0),.list .self [],.list .self []]/\m'.blk P1=m.blk P1/\m'.gl=m.gl/\m'.hp=h'/\m.back q m'=m.seth h') (fr.f_.bB.take p).length ?_ ?_
  ·refine ⟨fr.f_.bB.take p,0,[],rfl,rfl,La _,hoa,sU _,?_⟩;refine ⟨?_,?_,?_,?_,?_,?_,?_,?_,?_,?_,?_,?_⟩
   all_goals try simp only [go_sem,seval,oL,e1,e4,e5,b10,b0,bP1,gl1,hp1',bk,EF]
  ·rintro i c E2 m2 ⟨l,v,out,rfl,hl,hvl1,hol,hov,e1,e4,e5,e37,e38,e39,b10,b0,bP1,gl2,hp2,bk⟩ _;have hc1:=bP1.trans hmP1;simp only [go_sem] at hc1;refine aM ?_;simp only [go_sem,e38,e39];refine aF ?_;cases l with
   | nil=>
     have hvv:¬ v<(fr.f_.bB.take p).length:=by
      have:=congrArg List.length hl;simp only [Ho,lD] at this;omega
     refine iB false (by simp only [go_sem,↓reduceIte];exact congrArg (fun b=>V.lit (.bool b)) (xdn (by simp only [EF] at hvv ⊢;omega))) ?_;simp only [↓reduceIte,xX];refine dQ ?_
     try simp only [bZ,bR,↓reduceIte,aL]
     rw [Kj] at hol;obtain rfl:=bV hol
     repeat refine aF ?_
     refine aN fun K hK=>?_;simp only [go_sem,seval,mK,oL,true_and,qU,CY,AQ,En,FI,jK,lD,e4,e5,b10,b0];apply hK;refine aQ ?_;refine ⟨by first | exact .inl rfl | exact .inl trivial,?_⟩;simp only [go_sem,seval,mK,oL,true_and,qU,CY,AQ,jK,lD,e4,aO,bk];exact ⟨h',rfl⟩
   | cons x l=>
     have hvb:v<(fr.f_.bB.take p).length:=by
      have:=congrArg List.length hl;simp only [Ho,jK] at this;omega
     have hx:(fr.f_.bB.take p)[v]? = some x:=by
      have:=congrArg List.head? hl;simpa [Pv] using this
     have hl2:(fr.f_.bB.take p).drop (v+1)=l:=by
      have:=congrArg List.tail hl;rw [List.tail_drop] at this;exact this
     have g1:(0:Int)<=(v:Int):=xds _;have g2:(v:Int)<((fr.f_.bB.take p).length:Int):=by omega
     have hw:i64.wrap ((v:Int)+1)=((v+1:Nat):Int):=by rw [fR (by omega) (by omega)];omega
     refine iB true (by simp only [go_sem,↓reduceIte];exact congrArg (fun b=>V.lit (.bool b)) (Fh g2)) ?_;simp only [↓reduceIte];refine aV ?_
     refine aF (bN (aM ?_));simp only [go_sem,seval,mK,oL,Ee,true_and,qU,CY,AQ,En,FI,jK,lD,uQ,zC,implies_true,e37,e39,g1,g2,AP,hx];refine aM ?_;simp only [go_sem,seval,zB,qU];rw [Kj] at hol;refine Fd (x.cF == 4) (fun c1=>?_) (fun c1=>?_)
     ·rw [if_pos (by simpa using c1)] at hol;obtain ⟨k,hk,hol⟩:=aA hol;obtain ⟨s1,hol⟩:=bS hol;obtain ⟨a,ha,hol⟩:=aA hol;obtain ⟨j0,j1,j2⟩:=aX hk;obtain ⟨_,_,a2⟩:=aX ha;obtain ⟨w1,d4⟩:=rO (f:=Jf hs) j2;rw [AP] at d4;have d5:=fRef_at s1 a2;refine dR (o0 [0,1,2,3,4,5,6,7,8,9,10,11,12]) 23 fun K hK=>?_;simp only [go_sem,seval,mK,oL,true_and,and_true,zB,qU,AQ,En,FI,jK,lD,uQ,xeb,Ix,false_implies,implies_true,beq_self_eq_true,Bool.or_true,Bool.and_true,fC hpP1,e1,e5,hc1,b10,hp2,hA,d4,d5,j1,g1,AP];refine ⟨by omega,?_⟩;apply hK;simp only [aL,aS];refine aN fun K hK=>?_;simp only [go_sem,seval,e39];apply hK;refine ⟨l.length,xH _,l,v+1,out++[a],rfl,hl2,by omega,hol,by rw [nL,uP];omega,?_⟩;refine ⟨?_,?_,?_,?_,?_,?_,?_,?_,?_,?_,?_,?_⟩
      all_goals try simp only [go_sem,seval,mK,oL,and_true,fC hpP1,e1,e4,e5,e37,e38,hw,b0,bP1,gl2,hp2,bk,aO,cM,cH,JC]
     ·rw [if_neg (by simpa using c1)] at hol;refine aV ?_
      try simp only [aL,aS]
      refine aN fun K hK=>?_;simp only [go_sem,seval,e39];apply hK;refine ⟨l.length,xH _,l,v+1,out,rfl,hl2,by omega,hol,by omega,?_⟩;refine ⟨?_,?_,?_,?_,?_,?_,?_,?_,?_,?_,?_,?_⟩
      all_goals try simp only [go_sem,seval,fC hpP1,e1,e4,e5,e37,e38,hw,b10,b0,bP1,gl2,hp2,bk,aO]
theorem Ms {P:Program} {N:Nat} {π:Pa} {k:Nat} {E:eA} {m:M} {Q:Exit->Nat->eA->M->Prop} {x:Code} (h:(∀j,k<=j->∀i,(j::π) <:+ i->m.hp i=none)->SW P N π x k E m Q):SW P N π x k E m Q:=by
 intro hf c a w h1 h2 h3;exact h (fun j hj i hi=>h1.fresh_hp (h3 j hj i hi)) hf c a w h1 h2 h3
theorem nK.push {h:Hp} {W A id:Pa} {AS:List Pa} {LS:List Nat} {ws rs:List Int} {hs:List (List Int)} (k:nK h W A AS LS ws rs hs) (eI:h id=none) (hrs:∀r ∈ rs,r<(hs.length:Int)) (x:List Int) (v:Nat) :
  nK (rR (rR h id (x.map By)) A ((rs.map (xB AS LS)).set v (.vec id 1 x.length))) W A (AS++[id]) (LS++[x.length]) ws (rs.set v (hs.length:Int)) (hs++[x]):=by
 have hW:W ≠ id:=fun e=>by have:=k.w;rw [e,eI] at this;cases this
 have hA:A ≠ id:=fun e=>by have:=k.a;rw [e,eI] at this;cases this
 have hn:id ∉ AS:=fun e=>by
  obtain ⟨i,l,e1,e2⟩:=k.find e;have:=k.gC i id l e1 e2;rw [eI] at this;cases this
 have hl:LS.length=AS.length:=by rw [k.ls,uQ,k.len]
 refine ⟨?_,?_,k.wa,fun hm=>?_,fun hm=>?_,List.nodup_append.2 ⟨k.nd,by simp,fun a ha b hb e=>?_⟩,by rw [JC,k.ls];rfl,by simp [k.len],fun i a l h1 h2=>?_⟩
 ·show (if W=A then _ else if W=id then _ else h W)=_;rw [if_neg k.wa,if_neg hW,k.w]
 ·show (if A=A then _ else _)=_;rw [if_pos rfl]
  congr 1
  rw [xdw,←k.len,Il hl]
  congr 1
  exact Pk fun r hr=>(KQ (by rw [k.len];exact hrs r hr) hl).symm
 ·rcases Ah.1 hm with hm | hm
  ·exact k.was hm
  ·exact hW (AU.1 hm)
 ·rcases Ah.1 hm with hm | hm
  ·exact k.aas hm
  ·exact hA (AU.1 hm)
 ·rw [AU] at hb;subst hb;subst e;exact hn ha
 ·have hne:a ≠ A:=fun e=>by
   have hm:=AT h1
   rcases Ah.1 hm with hm | hm
   ·exact k.aas (by rw [←e];exact hm)
   ·exact hA (by rw [←e];exact AU.1 hm)
  show (if a=A then _ else if a=id then _ else h a)=_;rw [if_neg hne]
  by_cases e:i<AS.length
  ·rw [FX e] at h1;rw [FX (by rw [←k.len];exact e)] at h2;rw [if_neg (fun e2=>hn (by rw [←e2];exact AT h1))];exact k.gC i a l h1 h2
  ·rw [Hr (by omega)] at h1;rw [Hr (by rw [←k.len];omega),←k.len] at h2
   have hi:i - AS.length=0:=by
    have:=(qS.1 h1).1;simp only [uP] at this;omega
   rw [hi] at h1 h2;obtain rfl:id=a:=by simpa using h1
   obtain rfl:x=l:=by simpa using h2
   rw [if_pos rfl]
theorem Im {m m2:M} {q p0 p1:Pa} {c0 c1:List V} {z:Nat} {h:Hp} (h0:q <:+ p0) (h1:q <:+ p1):m.back q (m2.fr p0 p1 c0 z c1 h)=(m.back q m2).seth h:=by
 have s0:q.isSuffixOf p0=true:=Fk.2 h0;have s1:q.isSuffixOf p1=true:=Fk.2 h1;refine M.ext_hp (funext fun i=>?_) (funext fun i=>funext fun o=>?_) rfl rfl rfl
 ·show (if q.isSuffixOf i then m.blk i else if i=p0 then some c0 else if i=p1 then some c1 else m2.blk i)=if q.isSuffixOf i then m.blk i else m2.blk i
  by_cases e:q.isSuffixOf i=true
  ·rw [if_pos e,if_pos e]
  ·rw [if_neg e,if_neg e,if_neg (fun e1=>e (by rw [e1];exact s0)),if_neg (fun e1=>e (by rw [e1];exact s1))]
 ·show (if q.isSuffixOf i then m.ver i else (m2.fr p0 p1 c0 z c1 h).ver i) o=(if q.isSuffixOf i then m.ver i else m2.ver i) o
  by_cases e:q.isSuffixOf i=true
  ·rw [if_pos e,if_pos e]
  ·rw [if_neg e,if_neg e,AN,if_neg];rintro ⟨rfl,_⟩;exact e s0
theorem Dp {p b:Nat}:∀ {l:List aZ} {i:Nat} {rs:List Int} {hs:List (List Int)} {z:List Int × List (List Int)},Eh p l i b rs hs=some z->(∀r ∈ rs,r<((b+hs.length:Nat):Int))->∀r ∈ z.1,r<((b+z.2.length:Nat):Int)
 | [],_,_,_,z,h,hr=>by
   rw [Eh] at h;obtain rfl:=bV h;exact hr
 | v::l,i,rs,hs,z,h,hr=>by
   rw [Eh] at h
   split at h
   ·obtain ⟨_,h⟩:=bS h;refine Dp h fun r hm=>?_;rw [nL,uP]
    rcases HN hm with hm | hm
    ·have:=hr r hm;omega
    ·omega
   ·exact Dp h hr
def Jb (f:aR->Int->T_interp_Args->Int->Option (eF × Int)):Prop:=∀a0 a1 a2 a3 r,f a0 a1 a2 a3=some r->∀(q:Pa) (m:M) (vs:List V),vs.map V.weak1=[.agg ((aR.C a0)),.lit (.int .i64 a1),.agg ((T_interp_Args.C a2)),.lit (.int .i64 a3)]/\(m.hp=fun _=>none)/\m.gl 3=.eptr [(cA bW.C dY)] 0 0->SC prog 20 vs q m (fun v m'=>v=.tup [.agg ((eF.C r.1)),.lit (.int .i64 r.2)]/\m'=m)
theorem wB (n:Nat):Jb (oK n):=by
 rintro p fn a fuel r h q m vs ⟨hv,hhp,hg⟩;refine SC.wv hv ?_;refine SC.noheap ?_;refine dZ func20 call20 ntmps20 results20 ?_;have hm0:m.seth (fun _=>none)=m:=M.ext_hp rfl rfl rfl rfl hhp.symm;unfold oK at h
 repeat refine aF ?_
 refine aN fun K hK=>?_;simp only [go_sem,seval,mK,oL,true_and];apply hK
 repeat refine aF ?_
 by_cases hr:fn<0 ∨ (p.bG.length:Int)<=fn
 ·rw [if_pos hr] at h;obtain rfl:=bV h
  have hcond:decide (fn<0)=true ∨ (decide (fn<0)=false/\decide ((p.bG.length:Int)<=fn)=true):=by
   by_cases e:fn<0
   ·exact .inl (Fh e)
   ·exact .inr ⟨xdn e,Fh (hr.resolve_left e)⟩
  refine gN 13 (fun E' m'=>E' 24=.lit (.bool true)/\E' 8=.ptr (2::q) 0/\m'.blk (2::q)=some [.lit (.int .i64 0),.lit (.int .u64 0),.list .self [],.list .self []]/\m.back q m'=m) ?_ ?_
  ·rcases hcond with c1 | ⟨c1,c2⟩
   ·refine fB fun K hK=>?_;simp only [go_sem,seval,c1];apply hK;refine ⟨by decide,?_⟩;simp only [go_sem,seval,and_true,aO,aJ]
   ·refine fB fun K hK=>?_;simp only [go_sem,seval,xdt,and_true,qU,uQ,c1,c2];apply hK;refine ⟨by decide,?_⟩;simp only [go_sem,seval,and_true,aO,aJ]
  ·rintro E1 m1 ⟨e24,e8,b2,bk⟩ _;simp only [aL]
   repeat refine aF ?_
   refine iB true (by simp only [go_sem,e24]) ?_;simp only [↓reduceIte]
   repeat refine aF ?_
   refine aN fun K hK=>?_;simp only [go_sem,seval,oL,true_and,En,FI,jK,lD,e8,b2];apply hK;refine aQ ?_
   try simp only [aU]
   refine ⟨by first | exact .inl rfl | exact .inl trivial,?_⟩;simp only [go_sem,seval,mK,oL,true_and,and_true,qU,CY,AQ,jK,lD,e8,aO,cM,bk,hm0];rfl
 ·rw [if_neg hr] at h;obtain ⟨f,hf,h⟩:=aA h;obtain ⟨i0,i1,i2⟩:=aX hf;obtain ⟨o,ho,h⟩:=aA h;obtain ⟨ft,hft,h⟩:=aA h;have c1:decide (fn<0)=false:=xdn (by omega);have c2:decide ((p.bG.length:Int)<=fn)=false:=xdn (by omega);refine aN fun K hK=>?_;simp only [go_sem,seval,xdt,and_true,qU,uQ,c1,c2];apply hK
  repeat refine aF ?_
  refine iB false (by simp only [go_sem,↓reduceIte]) ?_;simp only [↓reduceIte,xX];refine aV ?_
  try simp only [aL]
  repeat refine aF ?_
  refine aN fun K hK=>?_;simp only [go_sem,seval,xdt,mK,oL,Ee,tS,Ef,true_and,and_true,qU,CY,AQ,jK,lD,uQ,zC,implies_true,i0,i1,i2];refine SC.mono (MI (b:=0) ho _ _ _ [] [] rfl rfl (by simp only [go_sem,mK,oL,aY.C_eq])) ?_;rintro _ _ ⟨AS2,h',rfl,rfl,hO⟩;simp only [go_sem,seval];apply hK
  have kB:nK h' (6::18::q) (10::18::q) AS2 (o.2.map List.length) o.1.cC o.1.cK o.2:=by
   refine ⟨hO.w,by simpa using hO.a,by simp,fun hm=>?_,fun hm=>?_,hO.nd,rfl,hO.len,hO.gC⟩
   ·obtain ⟨j,i,e⟩:=hO.un _ hm;have:=congrArg List.length e;simp only [jK] at this;omega
   ·obtain ⟨j,i,e⟩:=hO.un _ hm;have:=congrArg List.length e;simp only [jK] at this;omega
  have hof:o.1.f_=f/\0<=f.bD/\f.bD<=(f.bB.length:Int)/\f.bB.length<=1000000:=by
   unfold Cg at ho;obtain ⟨⟨q1,q2,q3⟩,ho⟩:=bS ho;obtain ⟨_,_,ho⟩:=aA ho;obtain rfl:=bV ho;exact ⟨rfl,q1,q2,q3⟩
  obtain ⟨hof,hp0,hp1,hvl⟩:=hof
  repeat refine aF ?_
  refine dR (o0 [0,1,2,3,4,5,6]) 27 fun K hK=>?_;simp only [go_sem,seval,mK,oL,true_and,and_true,qU,CY,AQ,jK,lD,hof];refine cB (GX n f a _ hft _ _ _ (by simp only [go_sem,mK,oL,tS,Ef])) rfl ?_;simp only [go_sem,↓reduceIte];apply hK;simp only [aL]
  repeat refine aF ?_
  cases ft with
  | false=>
    rw [if_pos rfl] at h;obtain rfl:=bV h;refine iB true (by simp only [go_sem,↓reduceIte,Bool.not_false]) ?_;simp only [↓reduceIte]
    repeat refine aF ?_
    refine aN fun K hK=>?_;simp only [go_sem,seval,oL,true_and,En,FI,jK,lD,Bool.not_false];apply hK;refine aQ ?_
    try simp only [aU]
    refine ⟨by first | exact .inl rfl | exact .inl trivial,?_⟩;simp only [go_sem,seval,mK,oL,true_and,and_true,qU,CY,AQ,jK,lD,aO,cM,iH,vP,aJ,hm0];rfl
  | true=>
    rw [if_neg (by simp)] at h;obtain ⟨t,ht,h8⟩:=aA h;obtain ⟨b,hb,h9⟩:=aA h8;refine iB false (by simp only [go_sem,↓reduceIte,Bool.not_true]) ?_;simp only [↓reduceIte,xX];refine aV ?_
    try simp only [aL]
    repeat refine aF ?_
    refine aN fun K hK=>?_;simp only [go_sem,Nat.reduceAdd,Bool.not_true];apply hK
    repeat refine aF ?_
    refine dR (o0 [0,1,2,3,4,5,6,7,8,9,10,11,12]) 42 fun K hK=>?_;simp only [go_sem,seval,Ee,xeg,true_and,zB,qU,AQ,jK,lD,uQ,implies_true,hp0,hp1];apply hK;refine bN ?_;obtain ⟨np,hnp⟩:∃np:Nat,f.bD.toNat=np:=⟨_,rfl⟩;rw [hnp] at ht;simp only [hnp];have hpl:np<=f.bB.length:=by omega
    have hor:∀r ∈ o.1.cK,r<(o.2.length:Int):=by
     unfold Cg at ho;obtain ⟨_,ho⟩:=bS ho;obtain ⟨z,hz,ho⟩:=aA ho;obtain rfl:=bV ho;have:=Dp hz (fun r hr=>by rw [(Pe.1 hr).2];omega);simpa using this
    refine DF (fun c E' m'=>∃(l:List aZ) (v w k:Nat) (to:aK) (hs2:List (List Int)) (AS:List Pa) (LS:List Nat),c=l.length/\(f.bB.take np).drop v=l/\v<=(f.bB.take np).length/\w<=v/\k<=v/\Ab a l v w k to hs2=some t/\to.f_=f/\(∀r ∈ to.cK,r<(hs2.length:Int)) ∧
     E' 3=.lit (.int .i64 fuel)/\E' 4=.ptr (0::q) 0/\E' 6=.ptr (1::q) 0/\E' 8=.ptr (2::q) 0/\E' 10=.ptr (12::18::q) 0/\E' 11=.lit (.int .i64 (w:Int))/\E' 12=.lit (.int .i64 (k:Int))/\E' 50=.list .none ((f.bB.take np).map aZ.C)/\E' 51=.lit (.int .i64 ((f.bB.take np).length:Int))/\E' 52=.lit (.int .i64 (v:Int)) ∧
     m'.blk (0::q)=some (aR.C p)/\m'.blk (1::q)=some (T_interp_Args.C a)/\m'.blk (2::q)=some [.lit (.int .i64 0),.lit (.int .u64 0),.list .self [],.list .self []]/\m'.blk (12::18::q)=some (Cj (6::18::q) (10::18::q) to)/\m'.gl=m.gl/\m.back q m'=m.seth m'.hp/\nK m'.hp (6::18::q) (10::18::q) AS LS to.cC to.cK hs2) (f.bB.take np).length ?_ ?_
    ·refine ⟨f.bB.take np,0,0,0,o.1,o.2,AS2,o.2.map List.length,rfl,rfl,La _,sU _,sU _,ht,hof,hor,?_⟩;refine ⟨?_,?_,?_,?_,?_,?_,?_,?_,?_,?_,?_,?_,?_,?_,?_,?_,?_⟩
     all_goals try simp only [go_sem,seval,xdt,and_true,EF,aR.C_eq,T_interp_Args.C_eq,aO,iH,aJ,hof,kB]
    ·rintro i c E1 m1 ⟨l,v,w,k,to,hs2,AS,LS,rfl,hl,hvl1,hwv,hkv,hra,htf,hrk,e3,e4,e6,e8,e10,e11,e12,e50,e51,e52,b0,b1,b2,b12,gl1,bk,kT⟩ _;have hc:=b12;simp only [go_sem] at hc;refine aM ?_;simp only [go_sem,e51,e52];refine aF ?_;cases l with
     | nil=>
       have hvv:¬ v<(f.bB.take np).length:=by
        have:=congrArg List.length hl;simp only [Ho,lD] at this;omega
       refine iB false (by simp only [go_sem,↓reduceIte];exact congrArg (fun b=>V.lit (.bool b)) (xdn (by simp only [EF] at hvv ⊢;omega))) ?_;simp only [↓reduceIte,xX];refine dQ ?_
       try simp only [bZ,bR,↓reduceIte,aL]
       rw [Ab] at hra;obtain rfl:=bV hra
       repeat refine aF ?_
       refine aN fun K hK=>?_;simp only [go_sem,seval,mK,oL,tS,BB,true_and,and_true,zB,qU,CY,AQ,jK,lD,Pu,Lh,e3,e4,b0,aR.C_eq];apply hK
       repeat refine aF ?_
       refine aN fun K hK=>?_;have gl2:m1.gl 3=_:=(congrFun gl1 _).trans hg;simp only [go_sem,seval,mK,oL,tS,Ef,zB,qU,e10,hc,htf];refine SC.mono (Ax n ⟨p,fuel,0,0,[]⟩ to hs2 f.eH _ hb _ _ _ (46::q) (12::18::q) (m1.ver (46::q) 4) (6::18::q) (10::18::q) AS LS (by simp only [go_sem,seval,mK,oL,tS,BB,and_true,lD,hc,htf,kT,gl2])) ?_;rintro _ _ ⟨rfl,rfl,kp⟩;simp only [go_sem,Nat.reduceAdd,tS,BB];apply hK
       repeat refine aF ?_
       refine aN fun K hK=>?_;simp only [go_sem,seval,true_and,zB,qU];apply hK
       repeat refine aF ?_
       refine Fd (b.1.e_ != (0:Int)) (fun c1=>?_) (fun c1=>?_)
       ·rw [if_pos (by simpa using c1)] at h9;obtain rfl:=bV h9
        repeat refine aF ?_
        refine dR [(0,0),(5,0),(1,0),(2,0),(3,0),(4,1),(6,0)] 68 fun K hK=>?_;simp only [go_sem,seval,oL,true_and,and_true,zB,qU,CY,AQ,En,FI,jK,lD,e8,b2];apply hK;refine aQ ?_
        try simp only [aU]
        refine ⟨by first | exact .inl rfl | exact .inl trivial,?_⟩;simp only [go_sem,↓reduceIte,Nat.reduceEqDiff,Nat.reduceAdd,mK,oL,true_and,and_true,qU,CY,AQ,jK,lD,e8,aO,cM,vP,Im (show q <:+ 46::q from MA _ _) (show q <:+ 12::18::q from ⟨[12,18],rfl⟩),bk,hm0];rfl
       ·rw [if_neg (by simpa using c1)] at h9;obtain ⟨x,hx,h10⟩:=aA h9;obtain rfl:=bV h10;refine aV ?_
        try simp only [aL]
        repeat refine aF ?_
        refine aN fun K hK=>?_;simp only [go_sem,seval,mK,oL,tS,Ef];refine SC.mono (LH hx _ _ _ (46::q) (12::18::q) (m1.ver (46::q) 4) (6::18::q) (10::18::q) AS LS (by simp only [go_sem,mK,oL,e10]) (by simp only [go_sem,↓reduceIte,tS,BB,HX]) (by simp only [go_sem,seval]) (by simp only [go_sem,↓reduceIte,and_true]) (by simp only [go_sem];exact nK.upk kT kp) (by simp) (by simp)) ?_;rintro _ _ ⟨h3,rfl,rfl⟩;simp only [go_sem,seval,true_and,and_true,En,FI,jK,lD,e8,b2];apply hK;refine aQ ?_;refine ⟨by first | exact .inl rfl | exact .inl trivial,?_⟩;simp only [go_sem,↓reduceIte,Nat.reduceEqDiff,Nat.reduceAdd,mK,oL,and_true,qU,CY,AQ,jK,lD,e8,aO,vP,Im (show q <:+ 46::q from MA _ _) (show q <:+ 12::18::q from ⟨[12,18],rfl⟩),bk,hm0]
     | cons x l=>
       have hvb:v<(f.bB.take np).length:=by
        have:=congrArg List.length hl;simp only [Ho,jK] at this;omega
       have hx:(f.bB.take np)[v]? = some x:=by
        have:=congrArg List.head? hl;simpa [Pv] using this
       have hl2:(f.bB.take np).drop (v+1)=l:=by
        have:=congrArg List.tail hl;rw [List.tail_drop] at this;exact this
       have hnl:(f.bB.take np).length<=1000000:=by rw [EF];omega
       have g1:(0:Int)<=(v:Int):=xds _;have g2:(v:Int)<((f.bB.take np).length:Int):=by omega
       have g3:(0:Int)<=(w:Int):=xds _;have g4:(0:Int)<=(k:Int):=xds _;have hw:i64.wrap ((v:Int)+1)=((v+1:Nat):Int):=by rw [fR (by omega) (by omega)];omega
       have hw2:i64.wrap ((w:Int)+1)=((w+1:Nat):Int):=by rw [fR (by omega) (by omega)];omega
       have hw3:i64.wrap ((k:Int)+1)=((k+1:Nat):Int):=by rw [fR (by omega) (by omega)];omega
       refine iB true (by simp only [go_sem,↓reduceIte];exact congrArg (fun b=>V.lit (.bool b)) (Fh g2)) ?_;simp only [↓reduceIte];refine aV ?_
       refine aF (bN (vK fun K hK=>?_));simp only [go_sem,seval,mK,oL,Ee,true_and,qU,CY,AQ,En,FI,jK,lD,uQ,zC,implies_true,e50,e52,g1,g2,AP,hx];apply hK
       repeat refine aF ?_
       refine aN fun K hK=>?_;simp only [go_sem,seval,zB,qU];apply hK;rw [Ab] at hra;refine Fd (x.cF == 4) (fun c1=>?_) (fun c1=>?_)
       ·rw [if_pos (by simpa using c1)] at hra;obtain ⟨y,hy,hra⟩:=aA hra;obtain ⟨⟨s1,s2,s3⟩,hra⟩:=bS hra;obtain ⟨j0,j1,j2⟩:=aX hy;rw [AP] at j2;refine aF (Ms fun hfr2=>?_);have q0:m1.hp (5::20::i::42::q)=none:=by have:=hfr2 20 (by omega) (5::20::i::42::q) ⟨[5],rfl⟩;simpa only [go_sem,↓reduceIte,Nat.reduceEqDiff,Nat.reduceAdd,Nat.reduceSub,Nat.reduceMul,Nat.reduceLT,Nat.reduceLeDiff,Nat.reduceBEq,Nat.reduceBNe,reduceCtorEq,xdt,Nat.one_ne_zero,mK,oL,xef,Ee,xeg,tS,Ef,BB,true_and,and_true,zB,qU,CY,AQ,En,FI,jK,lD,uQ,Pu,Lh,zC,xeb,Ix,false_implies,implies_true,Bool.not_true,Bool.not_false,beq_self_eq_true,Bool.or_true,Bool.true_or,Bool.and_true,Bool.true_and] using this
        refine dR [(5,0),(6,0),(7,0),(8,0),(9,0),(10,0),(0,0),(1,0),(2,0),(3,1),(4,0),(11,0),(12,0)] 23 fun K hK=>?_;simp only [go_sem,seval,mK,oL,Ee,true_and,zB,qU,AQ,jK,lD,uQ,zC,implies_true,e6,e12,b1,T_interp_Args.C_eq,g4,j1,j2,AP];refine cB (QW (l:=y) s1 s2 _ _ _ (by simp only [go_sem,mK,oL,tS,Ef])) rfl ?_;have s4:(v:Int)<(to.cK.length:Int):=by omega
        have s5:v+1<=to.cK.length:=by omega
        simp only [go_sem,seval,mK,oL,true_and,zB,qU,CY,AQ,jK,lD,uQ,e10,hc,g1,s4,s5,AP,kT.a];apply hK;refine aM ?_;simp only [go_sem,seval,e12,hw3];refine dQ ?_
        try simp only [bZ,bR,↓reduceIte,aL]
        refine aN fun K hK=>?_;simp only [go_sem,seval,e52];apply hK;refine ⟨l.length,xH _,l,v+1,w,k+1,{ to with cK:=to.cK.set v (hs2.length:Int) },hs2++[y],AS++[5::20::i::42::q],LS++[y.length],rfl,hl2,by omega,by omega,by omega,hra,htf,fun r hr=>?_,?_⟩
        ·rw [nL,uP]
         rcases HN hr with hr | hr
         ·have:=hrk r hr;omega
         ·omega
        refine ⟨?_,?_,?_,?_,?_,?_,?_,?_,?_,?_,?_,?_,?_,?_,?_,?_,?_⟩
        all_goals try simp only [go_sem,seval,e3,e4,e6,e8,e10,e11,e50,e51,hw,b0,b1,b2,hc,gl1,bk,HL,aR.C_eq,T_interp_Args.C_eq,aO,iH,vP,rG]
        exact nK.push kT q0 hrk y v
       ·rw [if_neg (by simpa using c1)] at hra;obtain ⟨y,hy,hra⟩:=aA hra;obtain ⟨s1,hra⟩:=bS hra;obtain ⟨j0,j1,j2⟩:=aX hy;rw [AP] at j2;refine aV ?_
        try simp only [aL]
        repeat refine aF ?_
        refine dR (o0 [0,1,2,3,4,5,6,7,8,9,10,11]) 22 fun K hK=>?_;simp only [go_sem,seval,mK,oL,Ee,true_and,zB,qU,AQ,jK,lD,uQ,zC,implies_true,e6,e10,e11,b1,T_interp_Args.C_eq,hc,g1,g3,j1,j2,AP,kT.w];refine ⟨by omega,by omega,?_⟩;apply hK;simp only [aL]
        repeat refine aF ?_
        refine fB fun K hK=>?_;simp only [go_sem,seval,e11,hw2];apply hK;simp only [aL,aS];refine aN fun K hK=>?_;simp only [go_sem,seval,e52];apply hK;refine ⟨l.length,xH _,l,v+1,w+1,k,{ to with cC:=to.cC.set v y },hs2,AS,LS,rfl,hl2,by omega,by omega,by omega,hra,htf,hrk,?_⟩;refine ⟨?_,?_,?_,?_,?_,?_,?_,?_,?_,?_,?_,?_,?_,?_,?_,?_,?_⟩
        all_goals try simp only [go_sem,seval,e3,e4,e6,e8,e10,e12,e50,e51,hw,b0,b1,b2,hc,gl1,bk,HL,aR.C_eq,T_interp_Args.C_eq,aO,iH,vP,rG,nK.setW kT]
        exact kT.up rfl
end Go.Proofs.YtncembphlfbgoaaGreatDoor.Abs
