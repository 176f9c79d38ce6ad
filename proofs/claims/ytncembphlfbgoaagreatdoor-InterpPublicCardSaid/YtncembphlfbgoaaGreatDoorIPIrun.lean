/- Lemmas of ours. -/
import Derived.Test.YtncembphlfbgoaaGreatDoorIPGIx
namespace Go.Proofs.YtncembphlfbgoaaGreatDoor.Abs
open Go.RowKit Tryz
open IntKind (i64 u32 u64 u8)
set_option linter.unusedVariables false
set_option maxRecDepth 10000
theorem SW_reg1 {P:Program} {N:Nat} {π:Pa} {k:Nat} {E:dU} {m:M} {Q:Exit->Nat->dU->M->Prop} {id:Nat} {o:Oper} {os:List Oper} (v0 u0:V) (hg:o.guard=none) (hwk:∀(c:Conc) (x:Value),CR c [v0] [x]->CR c [u0] [x]) (h1:dW P o (k::π) E m (fun v m1=>v=v0/\m1=m))
  (h:∀K:Nat->dU->M->Prop,(∀k E m,Q .normal k E m->K k E m)->iX P (o::os) π K os (k+1) (gC o.dst u0 E) m):SW P N π (.region id (o::os).toArray false) k E m Q:=by
 intro hf c a w hR hE hF;have h:=h (Q .normal) fun _ _ _ x=>x;have hfit:wO N (o::os)=true:=by simpa [BH] using hf
 have hfit2:=hfit;simp only [wO,List.all_cons,Fw] at hfit2
 have hfo:∀d,o.dst=some d->d<N:=by
  intro d hd;have:=hfit2.1;rw [hd] at this;simpa using this
 refine wp_region_list ?_;show wpList P _ _ (o::os) a w;refine BigFrame.wpList_want (by simp [Region.wanted,hg]) fun K' hK'=>?_;refine Oper.wp_mono ?_ (tB (N:=N) h1 hR hE hF.gB hfo _);rintro a' w' ⟨c',v,m',⟨rfl,rfl⟩,g1,g2,g3,g4⟩
 have g5:kI c' (gC o.dst u0 E) a' N:=by
  refine ⟨g3.size,fun t=>?_⟩;have:=g3.gB t;cases hd:o.dst with
  | none=>rw [hd] at this;exact this
  | some d=>
    rw [hd] at this;show CR c' [if t=d then u0 else E t] _;have e:gC (some d) v E t=if t=d then v else E t:=rfl;rw [e] at this
    by_cases ht:t=d
    ·rw [if_pos ht] at this ⊢;exact hwk c' _ this
    ·rw [if_neg ht] at this ⊢;exact this
 refine hK' a' w' (NR (full:=(o::os).toArray) (W:=wr (.region id (o::os).toArray false)) (E0:=E) (c0:=c) (m0:=m') (w0:=w) (a0:=a) (K:=Q .normal) (fun a' w' hp=>hp) os (k+1) _ c' m' w' a' (by simpa using h) hfit2.2 g1 g5 (g2.freshK hF) g2.up (g4) (fun t ht=>?_) (fun o' ho' d hd=>?_))
 ·cases hd:o.dst with
  | none=>rfl
  | some d=>
    show (if t=d then u0 else E t)=E t;rw [if_neg];rintro rfl
    have:wr (.region id (o::os).toArray false) t=true:=by
     simp only [wr,xea,beq_iff_eq];exact ⟨o,by simp,hd⟩
    rw [this] at ht;cases ht
 ·simp only [wr,xea,beq_iff_eq];exact ⟨o',by simp [ho'],hd⟩
theorem PG {P:Program} {N:Nat} {π:Pa} {k:Nat} {E:dU} {m:M} {Q:Exit->Nat->dU->M->Prop} {id t d1 d2:Nat} {T T1 T2 T3:TypeId} {e:TypeId} {p1 p2:String} {a1 a2:Array Edge} {o:HO} {r:List V} {rows:List (List V)} (hx:E t=.list o (r::rows)) (hT:P.underlying T=some (.slice e))
  (h:Q .normal (k+2) (PZ (PZ E d1 (.list o (r::rows))) d2 (.lit (.bool false))) m):SW P N π (.region id #[⟨some d1,.move (.tmp t),T1,p1,a1,none⟩,⟨some d2,.binOp .eql T (.tmp d1) (.const (.slice none 0 0)) T2,T3,p2,a2,none⟩] false) k E m Q:=by
 intro hf c a w hR hE hF
 have hd:d1<N/\d2<N:=by
  simpa [BH,wO] using hf
 refine wp_region_list ?_;refine BigFrame.wpList_want (by simp [Region.wanted]) fun K1 hK1=>?_;have s1:dW P ⟨some d1,.move (.tmp t),T1,p1,a1,none⟩ (k::π) E m (fun v m1=>v=.list o (r::rows)/\m1=m):=⟨hx,rfl⟩;refine Oper.wp_mono ?_ (tB (N:=N) s1 hR hE hF.gB (fun d e=>by injection e with e;rw [←e];exact hd.1) _);rintro a' w' ⟨c',v,m',⟨rfl,rfl⟩,g1,g2,g3,g4⟩;refine hK1 a' w' ?_;refine BigFrame.wpList_want (by simp [Region.wanted]) fun K2 hK2=>?_
 have hv:CR c' [.list o (r::rows)] [a'.tmps.getD d1 undef]:=by
  have:=g3.gB d1;have e:gC (some d1) (V.list o (r::rows)) E d1=.list o (r::rows):=if_pos rfl;rw [e] at this;exact this
 obtain ⟨ad,cap,es,sz,he,k1,k2,kz,k3,k4,k5,_⟩:=hv.inv_list;obtain ⟨b,off,rfl⟩:=k5 (by simp)
 have hrun:(execOp a'.eval ⟨some d2,.binOp .eql T (.tmp d1) (.const (.slice none 0 0)) T2,T3,p2,a2,none⟩).run P w'=.ok (.value (.bool false)) w':=by
  have e1:a'.eval (.tmp d1)=.slice (some ⟨b,off,none⟩) (r::rows).length cap:=he;have e2:a'.eval (.const (.slice none 0 0))=.slice none 0 0:=rfl;show Sem.run P (do pure (Next.value (←(do eqGuard .eql T (.tmp d1) (.const (.slice none 0 0)) (a'.eval (.tmp d1)) (a'.eval (.const (.slice none 0 0)));binOp .eql T (a'.eval (.tmp d1)) (a'.eval (.const (.slice none 0 0))):Sem Value)))) w'=_;rw [e1,e2]
  have heq:∀d n c,(Op.equalIn (d+1) T (.slice (some ⟨b,off,none⟩) n c) (.slice none 0 0)).run P w'=.ok false w':=fun d n c=>by
   unfold Op.equalIn;simp [run_underlying hT]
  have heq2:∀n c,(Op.equal T (.slice (some ⟨b,off,none⟩) n c) (.slice none 0 0)).run P w'=.ok false w':=fun n c=>heq _ n c;simp [eqGuard,binOp,heq2]
 refine Oper.wp_mono ?_ (iN (C:=fun v m1=>v=.lit (.bool false)/\m1=m') (q:=(k+1)::π) g3 (fun d e=>by injection e with e;rw [←e];exact hd.2) hrun ⟨rfl,rfl⟩ g1 (.refl _ c' m' w') (.lit .nil));rintro a'' w'' ⟨c'',v,m'',⟨rfl,rfl⟩,q1,q2,q3,q4⟩;refine hK2 a'' w'' ⟨c'',k+2,_,m'',h,q1,g2.up.trans q2.up,q3,?_,q4.trans g4,fun t ht=>?_⟩
 ·exact q2.freshK (g2.freshK hF)
 ·have h0:t ≠ d1/\t ≠ d2:=by
   simp only [wr,List.any_cons,List.any_nil,Bool.or_false,xdy] at ht;exact ⟨fun e=>by rw [e] at ht;simp at ht,fun e=>by rw [e] at ht;simp at ht⟩
  show (if t=d2 then _ else if t=d1 then _ else E t)=E t;rw [if_neg h0.2,if_neg h0.1]
theorem ND:∀ {l:List Int},List.map V.toHp (List.map (cI .u32) l).flatten=List.map BK l
 | []=>rfl
 | x::l=>by
   rw [lQ,Fy,HS,ND,lQ];rfl
theorem RL {l:List Int} (hl:0<l.length) (hl2:l.length<=1073741824) (q:Pa) (m:M) (vs:List V) (hv:vs.map V.weak1=[.list .none (l.map (cI .u32))]) :
  SC prog 46 vs q m (fun v m'=>v=.vec (5::q) 1 l.length/\m'=m.hset (5::q) (l.map BK)):=by
 refine SC.wv hv (eD func46 call46 ntmps46 results46 ?_);refine pO fun K hK=>?_;simp only [go_sem];apply hK;obtain ⟨x,l,rfl⟩:∃x l',l=x::l':=by cases l with | nil=>simp at hl | cons x l=>exact ⟨x,l,rfl⟩
 refine aF (aF (PG (e:=23) (o:=.none) (r:=cI .u32 x) (rows:=l.map (cI .u32)) (by simp only [go_sem,seval,lQ,lQ]) (by kernel_rfl) ?_));refine iF false (by simp only [go_sem,↓reduceIte,lQ]) ?_;simp only [↓reduceIte,yI];refine aU ?_
 refine aF (SW_reg1 (.list .exact []) .nilv rfl (fun c x hx=>?_) ?_ fun K hK=>?_)
 ·obtain ⟨a,cap,es,sz,rfl,k1,k2,kz,k3,k4,k5,k6,kc,k7⟩:=hx.inv_list;obtain ⟨rfl,_⟩:=k7;exact .nilv .nil
 ·simp only [dW];simp only [go_sem,Nat.reduceLT,lQ,oU,and_true,lA]
 ·simp only [go_sem,seval,lQ,true_and,and_true,jC,lA,sY,xeb,implies_true,lQ];refine ⟨by omega,by simp only [jC] at hl2;omega,?_⟩;apply hK;refine aO ?_;refine ⟨by first | exact .inl rfl | exact .inl trivial,?_⟩;simp only [go_sem,↓reduceIte,lQ,uG,BO,true_and,jC,lQ,Fy,qH,gQ,bK];rw [ND]
theorem fT.reHp {c:Conc} {m:M} {w:World} (h:fT c m w) {A:Pa} {vs us:List V} (hv:m.hp A=some vs) (hw:LB c vs us) (q:Pa):fT c (m.hset A us) w/\Abs.mT q c m w c (m.hset A us) w:=by
 obtain ⟨b,n,hk,cs,t,hB,hl,hcr,hone⟩:=h.hpr A vs hv;have hlen:=hw.len;exact h.hwrite q hv hk hB hB rfl (World.grownBy.refl _ _) (by rw [hlen];exact hl) (by rw [hlen];exact LB.ok (.refl c) hw hcr) hone
def JJ (hs:List (List Int)) (k:Int):V:=if k<0 then .nilv else .list .none ((hs.getD k.toNat []).map (cI .u32))
theorem SW_frz {P:Program} {N:Nat} {π:Pa} {k:Nat} {E:dU} {m:M} {Q:Exit->Nat->dU->M->Prop} {code:Code} {W A:Pa} {AS:List Pa} {LS:List Nat} {ws rs:List Int} {hs:List (List Int)} (kk:nV m.hp W A AS LS ws rs hs) (hrs:∀i ∈ rs,i<(hs.length:Int))
  (h:∀h':Hp,h' A=some (rs.map (JJ hs))->SW P N π code k E (m.seth h') Q):SW P N π code k E m Q:=by
 intro hf c a w h1 h2 h3
 obtain ⟨c',g1,g2,g3⟩:=h1.freezeL AS (fun id hi=>by
  obtain ⟨i,l,e1,e2⟩:=kk.find hi;rw [kk.gB i id l e1 e2];simp)
 have hA:(m.seth (xI m.hp AS)).hp A=some (rs.map (xL AS LS)):=by
  show (if A ∈ AS then none else m.hp A)=_;rw [if_neg kk.aas,kk.a]
 have hw:∀l:List Int,(∀i ∈ l,i<(hs.length:Int))->LB c' (l.map (xL AS LS)) (l.map (JJ hs)):=by
  intro l
  induction l with
  | nil=>intro _;exact trivial
  | cons i l ih=>
    intro hl;refine ⟨?_,ih fun j hj=>hl j (by simp [hj])⟩
    by_cases hi:i<0
    ·have e1:xL AS LS i=.nilv:=if_pos hi;have e2:JJ hs i=.nilv:=if_pos hi;rw [e1,e2];exact Wk.refl _ _
    ·have hil:=hl i (by simp);have hit:i.toNat<hs.length:=by omega
     obtain ⟨x,e1,e2,e3,_,_⟩:=kk.get (i:=i) (by omega) (tA hit)
     have e4:JJ hs i=.list .none (hs[i.toNat].map (cI .u32)):=by
      unfold JJ;rw [if_neg hi,Kj,tA hit];rfl
     rw [e1,e4]
     have:=g3 x (Al e3) _ e2 1 (hs[i.toNat].map (cI .u32)) (by
      rw [sY,LO,xed (by rw [sY];exact tJ _)]
      generalize hs[i.toNat]=l
      induction l with
      | nil=>rfl
      | cons y l ih=>rw [lQ,lQ,Fy,←ih];rfl) (fun r hr=>by
      obtain ⟨y,_,rfl⟩:=ER.1 hr;rfl)
     rw [sY] at this;exact this
 obtain ⟨r1,r2⟩:=g1.reHp hA (hw rs hrs) π;have hX:=(g2 π).trans r2;refine wp_mono (h ((m.seth (xI m.hp AS)).hset A (rs.map (JJ hs))).hp (by show (if A=A then _ else _)=_;rw [if_pos rfl]) hf c' a w r1 ⟨h2.size,fun t=>(h2.gB t).mono hX.le⟩ (fun j hj id eE=>?_)) fun e a' w' hp=>?_
 ·exact ((g2 (0::id)).trans (g1.reHp hA (hw rs hrs) (0::id)).2).fresh id (fun hs=>by have:=hs.length_le;simp only [jC] at this;omega) (h3 j hj id eE)
 ·exact hp.trans hX rfl (fun _ _=>rfl) (fun t ht=>⟨ht,ht⟩)
theorem fRef_at {hs:List (List Int)} {k:Int} {l:List Int} (h0:0<=k) (h:hs[k.toNat]? = some l):JJ hs k=.list .none (l.map (cI .u32)):=by
 unfold JJ;rw [if_neg (by omega),Kj,h];rfl
theorem Mk {rn:aE} {fr:aJ} {hs:List (List Int)} {x:dX} (h:BC rn fr hs=some x) (q:Pa) (m:M) (vs:List V) (P0 P1:Pa) (z:Nat) (W A:Pa) (AS:List Pa) (LS:List Nat) (hv:vs.map V.weak1=[.ptr P0 0,.ptr P1 0]) (hmP0:m.blk P0=some (Iz rn)) (hmP1:m.blk P1=some (Cx W A fr)) (hvr:m.ver P0 4=z+rn.bT.length) (hkF:nV m.hp W A AS LS fr.cC fr.cE hs) (hn01:(P0=P1)=False) (hn10:(P1=P0)=False) :
  SC prog 48 vs q m (fun v m'=>∃h',v=.agg (dX.C x)/\m'=m.seth h'):=by
 refine SC.wv hv ?_;refine SC.apart hmP0 fun hpP0=>?_;refine SC.apart hmP1 fun hpP1=>?_;refine eD func48 call48 ntmps48 results48 ?_;unfold BC at h;obtain ⟨⟨hrs,hp0,hp1,hvl⟩,h⟩:=bP h;obtain ⟨oa,hoa,h⟩:=aA h;obtain rfl:=bO h;refine SW_frz hkF hrs fun h' hA=>?_;have hb0:=hmP0;have hb1:=hmP1;simp only [go_sem,uG,BO,Iz] at hb0 hb1
 repeat refine aF ?_
 refine aP fun K hK=>?_;simp only [go_sem,lQ,oU];apply hK
 repeat refine aF ?_
 refine eC (o0 [0,1,2,3,4,5,6,7,8,9,10]) 12 fun K hK=>?_;simp only [go_sem,seval,lQ,oU,uG,Et,BO,true_and,and_true,zM,qU,Dm,Bd,EB,FZ,jC,lA,Qg,Ki,gZ hpP0,hb0];apply hK;simp only [aK]
 repeat refine aF ?_
 refine aP fun K hK=>?_;simp only [go_sem,seval,and_true,zM,qU,gZ hpP0,hb0];apply hK;refine fX 23 (fun E' m'=>E' 0=.ptr P0 0/\E' 1=.ptr P1 0/\E' 4=.ptr (0::q) 0/\E' 5=.ptr (10::q) 0/\m'.blk (10::q)=some [.lit (.int .i64 rn.fQ),.lit (.int .u64 (if rn.fQ=0 then fr.oP else 0)),.list .self [],.list .none (rn.bT.map bC.C)]/\m'.blk (0::q)=some [.lit (.int .i64 0),.lit (.int .u64 0),.list .self [],.list .self []]/\m'.blk P0=m.blk P0/\m'.blk P1=m.blk P1/\m'.gl=m.gl/\m'.hp=h'/\m.back q m'=m.seth h') ?_ ?_
 ·refine Fq (rn.fQ == 0) (fun c1=>?_) (fun c1=>?_)
  ·refine eR fun K hK=>?_;simp only [go_sem,seval,true_and,zM,qU,EB,FZ,jC,lA,gZ hpP1,hb1];apply hK;refine ⟨by decide,?_⟩;rw [if_pos (by simpa using c1)];simp only [go_sem,seval,and_true,gZ hpP0,gZ hpP1,bF,dB,gQ,bK]
  ·refine aU ?_;refine ⟨by decide,?_⟩;rw [if_neg (by simpa using c1)];simp only [go_sem,seval,and_true,gZ hpP0,gZ hpP1,bF,dB,gQ,bK]
 ·rintro E1 m1 ⟨e0,e1,e4,e5,b10,b0,bP0,bP1,gl1,hp1',bk⟩ _;simp only [aK];have hc1:=bP1.trans hmP1;simp only [go_sem] at hc1
  repeat refine aF ?_
  refine eC (o0 [0,1,2,3,4,5,6,7,8,9,10,11,12]) 36 fun K hK=>?_;simp only [go_sem,seval,Ej,xeh,true_and,zM,qU,Bd,jC,lA,sY,implies_true,e1,hc1,hp0,hp1];apply hK;refine bM ?_;obtain ⟨p,hp⟩:∃p:Nat,fr.f_.aW.toNat=p:=⟨_,rfl⟩;rw [hp] at hoa;simp only [hp];have hpl:p<=fr.f_.aV.length:=by omega
  have hlen:(fr.f_.aV.take p).length=p:=by rw [Ei];omega
  refine DT (fun c E' m'=>∃(l:List bB) (v:Nat) (out:List (List Int)),c=l.length/\(fr.f_.aV.take p).drop v=l/\v<=(fr.f_.aV.take p).length/\KR hs l v fr.cE out=some oa/\out.length<=v ∧
   E' 1=.ptr P1 0/\E' 4=.ptr (0::q) 0/\E' 5=.ptr (10::q) 0/\E' 37=.list .none ((fr.f_.aV.take p).map bB.C)/\E' 38=.lit (.int .i64 ((fr.f_.aV.take p).length:Int))/\E' 39=.lit (.int .i64 (v:Int)) ∧
   m'.blk (10::q)=some [.lit (.int .i64 rn.fQ),.lit (.int .u64 (if rn.fQ=0 then fr.oP else 0)),.list .self (out.map (cL (cI .u32))),.list .none (rn.bT.map bC.C)]/\m'.blk (0::q)=some [.lit (.int .i64 0),.lit (.int .u64 0),.list .self [],.list .self []]/\m'.blk P1=m.blk P1/\m'.gl=m.gl/\m'.hp=h'/\m.back q m'=m.seth h') (fr.f_.aV.take p).length ?_ ?_
  ·refine ⟨fr.f_.aV.take p,0,[],rfl,rfl,Kh _,hoa,tJ _,?_⟩;refine ⟨?_,?_,?_,?_,?_,?_,?_,?_,?_,?_,?_,?_⟩
   all_goals try simp only [go_sem,seval,oU,e1,e4,e5,b10,b0,bP1,gl1,hp1',bk,Ei]
  ·rintro i c E2 m2 ⟨l,v,out,rfl,hl,hvl1,hol,hov,e1,e4,e5,e37,e38,e39,b10,b0,bP1,gl2,hp2,bk⟩ _;have hc1:=bP1.trans hmP1;simp only [go_sem] at hc1;refine pO fun K hK=>?_;simp only [go_sem,e38,e39];apply hK;refine aF ?_;cases l with
   | nil=>
     have hvv:¬ v<(fr.f_.aV.take p).length:=by
      have:=congrArg List.length hl;simp only [HR,lA] at this;omega
     refine iF false (by simp only [go_sem,↓reduceIte];exact congrArg (fun b=>V.lit (.bool b)) (xdo (by simp only [Ei] at hvv ⊢;omega))) ?_;simp only [↓reduceIte,yI];refine dQ ?_
     try simp only [bZ,bR,↓reduceIte,aK]
     rw [KR] at hol;obtain rfl:=bO hol
     repeat refine aF ?_
     refine aP fun K hK=>?_;simp only [go_sem,seval,lQ,oU,true_and,qU,Dm,Bd,EB,FZ,jC,lA,e4,e5,b10,b0];apply hK;refine aO ?_;refine ⟨by first | exact .inl rfl | exact .inl trivial,?_⟩;simp only [go_sem,seval,lQ,oU,true_and,qU,Dm,Bd,jC,lA,e4,bF,bk];exact ⟨h',rfl⟩
   | cons x l=>
     have hvb:v<(fr.f_.aV.take p).length:=by
      have:=congrArg List.length hl;simp only [HR,jC] at this;omega
     have hx:(fr.f_.aV.take p)[v]? = some x:=by
      have:=congrArg List.head? hl;simpa [Qh] using this
     have hl2:(fr.f_.aV.take p).drop (v+1)=l:=by
      have:=congrArg List.tail hl;rw [List.tail_drop] at this;exact this
     have g1:(0:Int)<=(v:Int):=xdt _;have g2:(v:Int)<((fr.f_.aV.take p).length:Int):=by omega
     have hw:i64.wrap ((v:Int)+1)=((v+1:Nat):Int):=by rw [fG (by omega) (by omega)];omega
     refine iF true (by simp only [go_sem,↓reduceIte];exact congrArg (fun b=>V.lit (.bool b)) (DU g2)) ?_;simp only [↓reduceIte];refine aU ?_
     refine aF (bM (pO fun K hK=>?_));simp only [go_sem,seval,lQ,oU,Ej,true_and,qU,Dm,Bd,EB,FZ,jC,lA,sY,yH,implies_true,e37,e39,g1,g2,yG,hx];apply hK;refine pO fun K hK=>?_;simp only [go_sem,seval,zM,qU];apply hK;rw [KR] at hol;refine Fq (x.bX == 4) (fun c1=>?_) (fun c1=>?_)
     ·rw [if_pos (by simpa using c1)] at hol;obtain ⟨k,hk,hol⟩:=aA hol;obtain ⟨s1,hol⟩:=bP hol;obtain ⟨a,ha,hol⟩:=aA hol;obtain ⟨j0,j1,j2⟩:=aZ hk;obtain ⟨_,_,a2⟩:=aZ ha;obtain ⟨w1,d4⟩:=sC (f:=JJ hs) j2;rw [yG] at d4;have d5:=fRef_at s1 a2;refine eC (o0 [0,1,2,3,4,5,6,7,8,9,10,11,12]) 23 fun K hK=>?_;simp only [go_sem,seval,lQ,oU,true_and,and_true,zM,qU,Bd,EB,FZ,jC,lA,sY,xeb,HT,false_implies,implies_true,beq_self_eq_true,Bool.or_true,Bool.and_true,gZ hpP1,e1,e5,hc1,b10,hp2,hA,d4,d5,j1,g1,yG];refine ⟨by omega,?_⟩;apply hK;simp only [aK,aQ];refine aP fun K hK=>?_;simp only [go_sem,seval,e39];apply hK;refine ⟨l.length,xQ _,l,v+1,out++[a],rfl,hl2,by omega,hol,by rw [nC,uW];omega,?_⟩;refine ⟨?_,?_,?_,?_,?_,?_,?_,?_,?_,?_,?_,?_⟩
      all_goals try simp only [go_sem,seval,lQ,oU,and_true,gZ hpP1,e1,e4,e5,e37,e38,hw,b0,bP1,gl2,hp2,bk,bF,dB,cG,HS]
     ·rw [if_neg (by simpa using c1)] at hol;refine aU ?_
      try simp only [aK,aQ]
      refine aP fun K hK=>?_;simp only [go_sem,seval,e39];apply hK;refine ⟨l.length,xQ _,l,v+1,out,rfl,hl2,by omega,hol,by omega,?_⟩;refine ⟨?_,?_,?_,?_,?_,?_,?_,?_,?_,?_,?_,?_⟩
      all_goals try simp only [go_sem,seval,gZ hpP1,e1,e4,e5,e37,e38,hw,b10,b0,bP1,gl2,hp2,bk,bF]
theorem MV {P:Program} {N:Nat} {π:Pa} {k:Nat} {E:dU} {m:M} {Q:Exit->Nat->dU->M->Prop} {x:Code} (h:(∀j,k<=j->∀i,(j::π) <:+ i->m.hp i=none)->SW P N π x k E m Q):SW P N π x k E m Q:=by
 intro hf c a w h1 h2 h3;exact h (fun j hj i hi=>h1.fresh_hp (h3 j hj i hi)) hf c a w h1 h2 h3
theorem nV.push {h:Hp} {W A id:Pa} {AS:List Pa} {LS:List Nat} {ws rs:List Int} {hs:List (List Int)} (k:nV h W A AS LS ws rs hs) (eE:h id=none) (hrs:∀r ∈ rs,r<(hs.length:Int)) (x:List Int) (v:Nat) :
  nV (sH (sH h id (x.map BK)) A ((rs.map (xL AS LS)).set v (.vec id 1 x.length))) W A (AS++[id]) (LS++[x.length]) ws (rs.set v (hs.length:Int)) (hs++[x]):=by
 have hW:W ≠ id:=fun e=>by have:=k.w;rw [e,eE] at this;cases this
 have hA:A ≠ id:=fun e=>by have:=k.a;rw [e,eE] at this;cases this
 have hn:id ∉ AS:=fun e=>by
  obtain ⟨i,l,e1,e2⟩:=k.find e;have:=k.gB i id l e1 e2;rw [eE] at this;cases this
 have hl:LS.length=AS.length:=by rw [k.ls,sY,k.len]
 refine ⟨?_,?_,k.wa,fun hm=>?_,fun hm=>?_,List.nodup_append.2 ⟨k.nd,by simp,fun a ha b hb e=>?_⟩,by rw [HS,k.ls];rfl,by simp [k.len],fun i a l h1 h2=>?_⟩
 ·show (if W=A then _ else if W=id then _ else h W)=_;rw [if_neg k.wa,if_neg hW,k.w]
 ·show (if A=A then _ else _)=_;rw [if_pos rfl]
  congr 1
  rw [PP,←k.len,IN hl]
  congr 1
  exact PW fun r hr=>(Lz (by rw [k.len];exact hrs r hr) hl).symm
 ·rcases At.1 hm with hm | hm
  ·exact k.was hm
  ·exact hW (zN.1 hm)
 ·rcases At.1 hm with hm | hm
  ·exact k.aas hm
  ·exact hA (zN.1 hm)
 ·rw [zN] at hb;subst hb;subst e;exact hn ha
 ·have hne:a ≠ A:=fun e=>by
   have hm:=Al h1
   rcases At.1 hm with hm | hm
   ·exact k.aas (by rw [←e];exact hm)
   ·exact hA (by rw [←e];exact zN.1 hm)
  show (if a=A then _ else if a=id then _ else h a)=_;rw [if_neg hne]
  by_cases e:i<AS.length
  ·rw [FB e] at h1;rw [FB (by rw [←k.len];exact e)] at h2;rw [if_neg (fun e2=>hn (by rw [←e2];exact Al h1))];exact k.gB i a l h1 h2
  ·rw [GP (by omega)] at h1;rw [GP (by rw [←k.len];omega),←k.len] at h2
   have hi:i - AS.length=0:=by
    have:=(qJ.1 h1).1;simp only [uW] at this;omega
   rw [hi] at h1 h2;obtain rfl:id=a:=by simpa using h1
   obtain rfl:x=l:=by simpa using h2
   rw [if_pos rfl]
theorem IO {m m2:M} {q p0 p1:Pa} {c0 c1:List V} {z:Nat} {h:Hp} (h0:q <:+ p0) (h1:q <:+ p1):m.back q (m2.fr p0 p1 c0 z c1 h)=(m.back q m2).seth h:=by
 have s0:q.isSuffixOf p0=true:=Fz.2 h0;have s1:q.isSuffixOf p1=true:=Fz.2 h1;refine M.ext_hp (funext fun i=>?_) (funext fun i=>funext fun o=>?_) rfl rfl rfl
 ·show (if q.isSuffixOf i then m.blk i else if i=p0 then some c0 else if i=p1 then some c1 else m2.blk i)=if q.isSuffixOf i then m.blk i else m2.blk i
  by_cases e:q.isSuffixOf i=true
  ·rw [if_pos e,if_pos e]
  ·rw [if_neg e,if_neg e,if_neg (fun e1=>e (by rw [e1];exact s0)),if_neg (fun e1=>e (by rw [e1];exact s1))]
 ·show (if q.isSuffixOf i then m.ver i else (m2.fr p0 p1 c0 z c1 h).ver i) o=(if q.isSuffixOf i then m.ver i else m2.ver i) o
  by_cases e:q.isSuffixOf i=true
  ·rw [if_pos e,if_pos e]
  ·rw [if_neg e,if_neg e,Bb,if_neg];rintro ⟨rfl,_⟩;exact e s0
theorem DC {p b:Nat}:∀ {l:List bB} {i:Nat} {rs:List Int} {hs:List (List Int)} {z:List Int × List (List Int)},Ew p l i b rs hs=some z->(∀r ∈ rs,r<((b+hs.length:Nat):Int))->∀r ∈ z.1,r<((b+z.2.length:Nat):Int)
 | [],_,_,_,z,h,hr=>by
   rw [Ew] at h;obtain rfl:=bO h;exact hr
 | v::l,i,rs,hs,z,h,hr=>by
   rw [Ew] at h
   split at h
   ·obtain ⟨_,h⟩:=bP h;refine DC h fun r hm=>?_;rw [nC,uW]
    rcases HW hm with hm | hm
    ·have:=hr r hm;omega
    ·omega
   ·exact DC h hr
def JG (f:aN->Int->T_interp_Args->Int->Option (dX × Int)):Prop:=∀a0 a1 a2 a3 r,f a0 a1 a2 a3=some r->∀(q:Pa) (m:M) (vs:List V),vs.map V.weak1=[.agg ((aN.C a0)),.lit (.int .i64 a1),.agg ((T_interp_Args.C a2)),.lit (.int .i64 a3)]/\(m.hp=fun _=>none)/\m.gl 3=.eptr [(cA bY.C dR)] 0 0->SC prog 20 vs q m (fun v m'=>v=.tup [.agg ((dX.C r.1)),.lit (.int .i64 r.2)]/\m'=m)
theorem wN (n:Nat):JG (nS n):=by
 rintro p fn a fuel r h q m vs ⟨hv,hhp,hg⟩;refine SC.wv hv ?_;refine SC.noheap ?_;refine eD func20 call20 ntmps20 results20 ?_;have hm0:m.seth (fun _=>none)=m:=M.ext_hp rfl rfl rfl rfl hhp.symm;unfold nS at h
 repeat refine aF ?_
 refine aP fun K hK=>?_;simp only [go_sem,seval,lQ,oU,true_and];apply hK
 repeat refine aF ?_
 by_cases hr:fn<0 ∨ (p.bD.length:Int)<=fn
 ·rw [if_pos hr] at h;obtain rfl:=bO h
  have hcond:decide (fn<0)=true ∨ (decide (fn<0)=false/\decide ((p.bD.length:Int)<=fn)=true):=by
   by_cases e:fn<0
   ·exact .inl (DU e)
   ·exact .inr ⟨xdo e,DU (hr.resolve_left e)⟩
  refine fX 13 (fun E' m'=>E' 24=.lit (.bool true)/\E' 8=.ptr (2::q) 0/\m'.blk (2::q)=some [.lit (.int .i64 0),.lit (.int .u64 0),.list .self [],.list .self []]/\m.back q m'=m) ?_ ?_
  ·rcases hcond with c1 | ⟨c1,c2⟩
   ·refine eR fun K hK=>?_;simp only [go_sem,seval,c1];apply hK;refine ⟨by decide,?_⟩;simp only [go_sem,seval,and_true,bF,bK]
   ·refine eR fun K hK=>?_;simp only [go_sem,seval,xdu,and_true,qU,sY,c1,c2];apply hK;refine ⟨by decide,?_⟩;simp only [go_sem,seval,and_true,bF,bK]
  ·rintro E1 m1 ⟨e24,e8,b2,bk⟩ _;simp only [aK]
   repeat refine aF ?_
   refine iF true (by simp only [go_sem,e24]) ?_;simp only [↓reduceIte]
   repeat refine aF ?_
   refine aP fun K hK=>?_;simp only [go_sem,seval,oU,true_and,EB,FZ,jC,lA,e8,b2];apply hK;refine aO ?_
   try simp only [aT]
   refine ⟨by first | exact .inl rfl | exact .inl trivial,?_⟩;simp only [go_sem,seval,lQ,oU,true_and,and_true,qU,Dm,Bd,jC,lA,e8,bF,dB,bk,hm0];rfl
 ·rw [if_neg hr] at h;obtain ⟨f,hf,h⟩:=aA h;obtain ⟨i0,i1,i2⟩:=aZ hf;obtain ⟨o,ho,h⟩:=aA h;obtain ⟨ft,hft,h⟩:=aA h;have c1:decide (fn<0)=false:=xdo (by omega);have c2:decide ((p.bD.length:Int)<=fn)=false:=xdo (by omega);refine aP fun K hK=>?_;simp only [go_sem,seval,xdu,and_true,qU,sY,c1,c2];apply hK
  repeat refine aF ?_
  refine iF false (by simp only [go_sem,↓reduceIte]) ?_;simp only [↓reduceIte,yI];refine aU ?_
  try simp only [aK]
  repeat refine aF ?_
  refine aP fun K hK=>?_;simp only [go_sem,seval,xdu,lQ,oU,Ej,uG,Et,true_and,and_true,qU,Dm,Bd,jC,lA,sY,yH,implies_true,i0,i1,i2];refine SC.mono (Nm (b:=0) ho _ _ _ [] [] rfl rfl (by simp only [go_sem,lQ,oU,aR.C_eq])) ?_;rintro _ _ ⟨AS2,h',rfl,rfl,hO⟩;simp only [go_sem,seval];apply hK
  have kB:nV h' (6::18::q) (10::18::q) AS2 (o.2.map List.length) o.1.cC o.1.cE o.2:=by
   refine ⟨hO.w,by simpa using hO.a,by simp,fun hm=>?_,fun hm=>?_,hO.nd,rfl,hO.len,hO.gB⟩
   ·obtain ⟨j,i,e⟩:=hO.un _ hm;have:=congrArg List.length e;simp only [jC] at this;omega
   ·obtain ⟨j,i,e⟩:=hO.un _ hm;have:=congrArg List.length e;simp only [jC] at this;omega
  have hof:o.1.f_=f/\0<=f.aW/\f.aW<=(f.aV.length:Int)/\f.aV.length<=1000000:=by
   unfold zC at ho;obtain ⟨⟨q1,q2,q3⟩,ho⟩:=bP ho;obtain ⟨_,_,ho⟩:=aA ho;obtain rfl:=bO ho;exact ⟨rfl,q1,q2,q3⟩
  obtain ⟨hof,hp0,hp1,hvl⟩:=hof
  repeat refine aF ?_
  refine eC (o0 [0,1,2,3,4,5,6]) 27 fun K hK=>?_;simp only [go_sem,seval,lQ,oU,true_and,and_true,qU,Dm,Bd,jC,lA,hof];refine vN (pL n f a _ hft _ _ _ (by simp only [go_sem,lQ,oU,uG,Et])) rfl ?_;simp only [go_sem,↓reduceIte];apply hK;simp only [aK]
  repeat refine aF ?_
  cases ft with
  | false=>
    rw [if_pos rfl] at h;obtain rfl:=bO h;refine iF true (by simp only [go_sem,↓reduceIte,Bool.not_false]) ?_;simp only [↓reduceIte]
    repeat refine aF ?_
    refine aP fun K hK=>?_;simp only [go_sem,seval,oU,true_and,EB,FZ,jC,lA,Bool.not_false];apply hK;refine aO ?_
    try simp only [aT]
    refine ⟨by first | exact .inl rfl | exact .inl trivial,?_⟩;simp only [go_sem,seval,lQ,oU,true_and,and_true,qU,Dm,Bd,jC,lA,bF,dB,gQ,wB,bK,hm0];rfl
  | true=>
    rw [if_neg (by simp)] at h;obtain ⟨t,ht,h8⟩:=aA h;obtain ⟨b,hb,h9⟩:=aA h8;refine iF false (by simp only [go_sem,↓reduceIte,Bool.not_true]) ?_;simp only [↓reduceIte,yI];refine aU ?_
    try simp only [aK]
    repeat refine aF ?_
    refine aP fun K hK=>?_;simp only [go_sem,Nat.reduceAdd,Bool.not_true];apply hK
    repeat refine aF ?_
    refine eC (o0 [0,1,2,3,4,5,6,7,8,9,10,11,12]) 42 fun K hK=>?_;simp only [go_sem,seval,Ej,xeh,true_and,zM,qU,Bd,jC,lA,sY,implies_true,hp0,hp1];apply hK;refine bM ?_;obtain ⟨np,hnp⟩:∃np:Nat,f.aW.toNat=np:=⟨_,rfl⟩;rw [hnp] at ht;simp only [hnp];have hpl:np<=f.aV.length:=by omega
    have hor:∀r ∈ o.1.cE,r<(o.2.length:Int):=by
     unfold zC at ho;obtain ⟨_,ho⟩:=bP ho;obtain ⟨z,hz,ho⟩:=aA ho;obtain rfl:=bO ho;have:=DC hz (fun r hr=>by rw [(PR.1 hr).2];omega);simpa using this
    refine DT (fun c E' m'=>∃(l:List bB) (v w k:Nat) (to:aJ) (hs2:List (List Int)) (AS:List Pa) (LS:List Nat),c=l.length/\(f.aV.take np).drop v=l/\v<=(f.aV.take np).length/\w<=v/\k<=v/\vC a l v w k to hs2=some t/\to.f_=f/\(∀r ∈ to.cE,r<(hs2.length:Int)) ∧
     E' 3=.lit (.int .i64 fuel)/\E' 4=.ptr (0::q) 0/\E' 6=.ptr (1::q) 0/\E' 8=.ptr (2::q) 0/\E' 10=.ptr (12::18::q) 0/\E' 11=.lit (.int .i64 (w:Int))/\E' 12=.lit (.int .i64 (k:Int))/\E' 50=.list .none ((f.aV.take np).map bB.C)/\E' 51=.lit (.int .i64 ((f.aV.take np).length:Int))/\E' 52=.lit (.int .i64 (v:Int)) ∧
     m'.blk (0::q)=some (aN.C p)/\m'.blk (1::q)=some (T_interp_Args.C a)/\m'.blk (2::q)=some [.lit (.int .i64 0),.lit (.int .u64 0),.list .self [],.list .self []]/\m'.blk (12::18::q)=some (Cx (6::18::q) (10::18::q) to)/\m'.gl=m.gl/\m.back q m'=m.seth m'.hp/\nV m'.hp (6::18::q) (10::18::q) AS LS to.cC to.cE hs2) (f.aV.take np).length ?_ ?_
    ·refine ⟨f.aV.take np,0,0,0,o.1,o.2,AS2,o.2.map List.length,rfl,rfl,Kh _,tJ _,tJ _,ht,hof,hor,?_⟩;refine ⟨?_,?_,?_,?_,?_,?_,?_,?_,?_,?_,?_,?_,?_,?_,?_,?_,?_⟩
     all_goals try simp only [go_sem,seval,xdu,and_true,Ei,aN.C_eq,T_interp_Args.C_eq,bF,gQ,bK,hof,kB]
    ·rintro i c E1 m1 ⟨l,v,w,k,to,hs2,AS,LS,rfl,hl,hvl1,hwv,hkv,hra,htf,hrk,e3,e4,e6,e8,e10,e11,e12,e50,e51,e52,b0,b1,b2,b12,gl1,bk,kT⟩ _;have hc:=b12;simp only [go_sem] at hc;refine pO fun K hK=>?_;simp only [go_sem,e51,e52];apply hK;refine aF ?_;cases l with
     | nil=>
       have hvv:¬ v<(f.aV.take np).length:=by
        have:=congrArg List.length hl;simp only [HR,lA] at this;omega
       refine iF false (by simp only [go_sem,↓reduceIte];exact congrArg (fun b=>V.lit (.bool b)) (xdo (by simp only [Ei] at hvv ⊢;omega))) ?_;simp only [↓reduceIte,yI];refine dQ ?_
       try simp only [bZ,bR,↓reduceIte,aK]
       rw [vC] at hra;obtain rfl:=bO hra
       repeat refine aF ?_
       refine aP fun K hK=>?_;simp only [go_sem,seval,lQ,oU,uG,BO,true_and,and_true,zM,qU,Dm,Bd,jC,lA,Qg,Ki,e3,e4,b0,aN.C_eq];apply hK
       repeat refine aF ?_
       refine aP fun K hK=>?_;have gl2:m1.gl 3=_:=(congrFun gl1 _).trans hg;simp only [go_sem,seval,lQ,oU,uG,Et,zM,qU,e10,hc,htf];refine SC.mono (AK n ⟨p,fuel,0,0,[]⟩ to hs2 f.eK _ hb _ _ _ (46::q) (12::18::q) (m1.ver (46::q) 4) (6::18::q) (10::18::q) AS LS (by simp only [go_sem,seval,lQ,oU,uG,BO,and_true,lA,hc,htf,kT,gl2])) ?_;rintro _ _ ⟨rfl,rfl,kp⟩;simp only [go_sem,Nat.reduceAdd,uG,BO];apply hK
       repeat refine aF ?_
       refine aP fun K hK=>?_;simp only [go_sem,seval,true_and,zM,qU];apply hK
       repeat refine aF ?_
       refine Fq (b.1.e_ != (0:Int)) (fun c1=>?_) (fun c1=>?_)
       ·rw [if_pos (by simpa using c1)] at h9;obtain rfl:=bO h9
        repeat refine aF ?_
        refine eC [(0,0),(5,0),(1,0),(2,0),(3,0),(4,1),(6,0)] 68 fun K hK=>?_;simp only [go_sem,seval,oU,true_and,and_true,zM,qU,Dm,Bd,EB,FZ,jC,lA,e8,b2];apply hK;refine aO ?_
        try simp only [aT]
        refine ⟨by first | exact .inl rfl | exact .inl trivial,?_⟩;simp only [go_sem,↓reduceIte,Nat.reduceEqDiff,Nat.reduceAdd,lQ,oU,true_and,and_true,qU,Dm,Bd,jC,lA,e8,bF,dB,wB,IO (show q <:+ 46::q from Nf _ _) (show q <:+ 12::18::q from ⟨[12,18],rfl⟩),bk,hm0];rfl
       ·rw [if_neg (by simpa using c1)] at h9;obtain ⟨x,hx,h10⟩:=aA h9;obtain rfl:=bO h10;refine aU ?_
        try simp only [aK]
        repeat refine aF ?_
        refine aP fun K hK=>?_;simp only [go_sem,seval,lQ,oU,uG,Et];refine SC.mono (Mk hx _ _ _ (46::q) (12::18::q) (m1.ver (46::q) 4) (6::18::q) (10::18::q) AS LS (by simp only [go_sem,lQ,oU,e10]) (by simp only [go_sem,↓reduceIte,uG,BO,Iz]) (by simp only [go_sem,seval]) (by simp only [go_sem,↓reduceIte,and_true]) (by simp only [go_sem];exact nV.upk kT kp) (by simp) (by simp)) ?_;rintro _ _ ⟨h3,rfl,rfl⟩;simp only [go_sem,seval,true_and,and_true,EB,FZ,jC,lA,e8,b2];apply hK;refine aO ?_;refine ⟨by first | exact .inl rfl | exact .inl trivial,?_⟩;simp only [go_sem,↓reduceIte,Nat.reduceEqDiff,Nat.reduceAdd,lQ,oU,and_true,qU,Dm,Bd,jC,lA,e8,bF,wB,IO (show q <:+ 46::q from Nf _ _) (show q <:+ 12::18::q from ⟨[12,18],rfl⟩),bk,hm0]
     | cons x l=>
       have hvb:v<(f.aV.take np).length:=by
        have:=congrArg List.length hl;simp only [HR,jC] at this;omega
       have hx:(f.aV.take np)[v]? = some x:=by
        have:=congrArg List.head? hl;simpa [Qh] using this
       have hl2:(f.aV.take np).drop (v+1)=l:=by
        have:=congrArg List.tail hl;rw [List.tail_drop] at this;exact this
       have hnl:(f.aV.take np).length<=1000000:=by rw [Ei];omega
       have g1:(0:Int)<=(v:Int):=xdt _;have g2:(v:Int)<((f.aV.take np).length:Int):=by omega
       have g3:(0:Int)<=(w:Int):=xdt _;have g4:(0:Int)<=(k:Int):=xdt _;have hw:i64.wrap ((v:Int)+1)=((v+1:Nat):Int):=by rw [fG (by omega) (by omega)];omega
       have hw2:i64.wrap ((w:Int)+1)=((w+1:Nat):Int):=by rw [fG (by omega) (by omega)];omega
       have hw3:i64.wrap ((k:Int)+1)=((k+1:Nat):Int):=by rw [fG (by omega) (by omega)];omega
       refine iF true (by simp only [go_sem,↓reduceIte];exact congrArg (fun b=>V.lit (.bool b)) (DU g2)) ?_;simp only [↓reduceIte];refine aU ?_
       refine aF (bM (pO fun K hK=>?_));simp only [go_sem,seval,lQ,oU,Ej,true_and,qU,Dm,Bd,EB,FZ,jC,lA,sY,yH,implies_true,e50,e52,g1,g2,yG,hx];apply hK
       repeat refine aF ?_
       refine aP fun K hK=>?_;simp only [go_sem,seval,zM,qU];apply hK;rw [vC] at hra;refine Fq (x.bX == 4) (fun c1=>?_) (fun c1=>?_)
       ·rw [if_pos (by simpa using c1)] at hra;obtain ⟨y,hy,hra⟩:=aA hra;obtain ⟨⟨s1,s2,s3⟩,hra⟩:=bP hra;obtain ⟨j0,j1,j2⟩:=aZ hy;rw [yG] at j2;refine aF (MV fun hfr2=>?_);have q0:m1.hp (5::20::i::42::q)=none:=by have:=hfr2 20 (by omega) (5::20::i::42::q) ⟨[5],rfl⟩;simpa only [go_sem,↓reduceIte,Nat.reduceEqDiff,Nat.reduceAdd,Nat.reduceSub,Nat.reduceMul,Nat.reduceLT,Nat.reduceLeDiff,Nat.reduceBEq,Nat.reduceBNe,reduceCtorEq,xdu,Nat.one_ne_zero,lQ,oU,xeg,Ej,xeh,uG,Et,BO,true_and,and_true,zM,qU,Dm,Bd,EB,FZ,jC,lA,sY,Qg,Ki,yH,xeb,HT,false_implies,implies_true,Bool.not_true,Bool.not_false,beq_self_eq_true,Bool.or_true,Bool.true_or,Bool.and_true,Bool.true_and] using this
        refine eC [(5,0),(6,0),(7,0),(8,0),(9,0),(10,0),(0,0),(1,0),(2,0),(3,1),(4,0),(11,0),(12,0)] 23 fun K hK=>?_;simp only [go_sem,seval,lQ,oU,Ej,true_and,zM,qU,Bd,jC,lA,sY,yH,implies_true,e6,e12,b1,T_interp_Args.C_eq,g4,j1,j2,yG];refine vN (RL (l:=y) s1 s2 _ _ _ (by simp only [go_sem,lQ,oU,uG,Et])) rfl ?_;have s4:(v:Int)<(to.cE.length:Int):=by omega
        have s5:v+1<=to.cE.length:=by omega
        simp only [go_sem,seval,lQ,oU,true_and,zM,qU,Dm,Bd,jC,lA,sY,e10,hc,g1,s4,s5,yG,kT.a];apply hK;refine pO fun K hK=>?_;simp only [go_sem,seval,e12,hw3];apply hK;refine dQ ?_
        try simp only [bZ,bR,↓reduceIte,aK]
        refine aP fun K hK=>?_;simp only [go_sem,seval,e52];apply hK;refine ⟨l.length,xQ _,l,v+1,w,k+1,{ to with cE:=to.cE.set v (hs2.length:Int) },hs2++[y],AS++[5::20::i::42::q],LS++[y.length],rfl,hl2,by omega,by omega,by omega,hra,htf,fun r hr=>?_,?_⟩
        ·rw [nC,uW]
         rcases HW hr with hr | hr
         ·have:=hrk r hr;omega
         ·omega
        refine ⟨?_,?_,?_,?_,?_,?_,?_,?_,?_,?_,?_,?_,?_,?_,?_,?_,?_⟩
        all_goals try simp only [go_sem,seval,e3,e4,e6,e8,e10,e11,e50,e51,hw,b0,b1,b2,hc,gl1,bk,GI,aN.C_eq,T_interp_Args.C_eq,bF,gQ,wB,qH]
        exact nV.push kT q0 hrk y v
       ·rw [if_neg (by simpa using c1)] at hra;obtain ⟨y,hy,hra⟩:=aA hra;obtain ⟨s1,hra⟩:=bP hra;obtain ⟨j0,j1,j2⟩:=aZ hy;rw [yG] at j2;refine aU ?_
        try simp only [aK]
        repeat refine aF ?_
        refine eC (o0 [0,1,2,3,4,5,6,7,8,9,10,11]) 22 fun K hK=>?_;simp only [go_sem,seval,lQ,oU,Ej,true_and,zM,qU,Bd,jC,lA,sY,yH,implies_true,e6,e10,e11,b1,T_interp_Args.C_eq,hc,g1,g3,j1,j2,yG,kT.w];refine ⟨by omega,by omega,?_⟩;apply hK;simp only [aK]
        repeat refine aF ?_
        refine eR fun K hK=>?_;simp only [go_sem,seval,e11,hw2];apply hK;simp only [aK,aQ];refine aP fun K hK=>?_;simp only [go_sem,seval,e52];apply hK;refine ⟨l.length,xQ _,l,v+1,w+1,k,{ to with cC:=to.cC.set v y },hs2,AS,LS,rfl,hl2,by omega,by omega,by omega,hra,htf,hrk,?_⟩;refine ⟨?_,?_,?_,?_,?_,?_,?_,?_,?_,?_,?_,?_,?_,?_,?_,?_,?_⟩
        all_goals try simp only [go_sem,seval,e3,e4,e6,e8,e10,e12,e50,e51,hw,b0,b1,b2,hc,gl1,bk,GI,aN.C_eq,T_interp_Args.C_eq,bF,gQ,wB,qH,nV.setW kT]
        exact kT.up rfl
end Go.Proofs.YtncembphlfbgoaaGreatDoor.Abs
