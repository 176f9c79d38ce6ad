/-
 Walks by hand: slices.Clone (an array of one's own), what comes of a run, and a run.
-/
import Derived.Test.YtldnmmnnohnpkaaGreatDoorILGIx
import Derived.Test.YtldnmmnnohnpkaaGreatDoorILGMm
namespace Go.Proofs.YtldnmmnnohnpkaaGreatDoor.Abs
set_option linter.unusedVariables false
open Go.RowKit
set_option maxRecDepth 10000
theorem SW_reg1 {P:Program} {N:Nat} {π:Pa} {k:Nat} {E:Env} {m:M} {Q:Exit->Nat->Env->M->Prop} {id:Nat} {o:Oper} {os:List Oper} (v0 u0:V) (hg:o.guard=none) (hwk:∀(c:Conc) (x:Value),CR c [v0] [x]->CR c [u0] [x]) (h1:zbL P o (k::π) E m (fun v m1=>v=v0/\m1=m))
  (h:∀K:Nat->Env->M->Prop,(∀k E m,Q .normal k E m->K k E m)->POps P (o::os) π K os (k+1) (putE o.dst u0 E) m):SW P N π (.region id (o::os).toArray false) k E m Q:=by
 intro hf c a w hR hE hF;have h:=h (Q .normal) fun _ _ _ x=>x;have hfit:zhX N (o::os)=true:=by simpa [fits] using hf
 have hfit2:=hfit;simp only [zhX,List.all_cons,Bool.and_eq_true] at hfit2
 have hfo:∀d,o.dst=some d->d<N:=by
  intro d hd;have:=hfit2.1;rw [hd] at this;simpa using this
 refine wp_region_list ?_;show wpList P _ _ (o::os) a w;refine BigFrame.wpList_want (by simp [Region.wanted,hg]) fun K' hK'=>?_;refine Oper.wp_mono ?_ (zgo (N:=N) h1 hR hE hF.at_ hfo _);rintro a' w' ⟨c',v,m',⟨rfl,rfl⟩,g1,g2,g3,g4⟩
 have g5:zeA c' (putE o.dst u0 E) a' N:=by
  refine ⟨g3.size,fun t=>?_⟩;have:=g3.at_ t;cases hd:o.dst with
  | none=>rw [hd] at this;exact this
  | some d=>
    rw [hd] at this;show CR c' [if t=d then u0 else E t] _;have e:putE (some d) v E t=if t=d then v else E t:=rfl;rw [e] at this
    by_cases ht:t=d
    ·rw [if_pos ht] at this ⊢;exact hwk c' _ this
    ·rw [if_neg ht] at this ⊢;exact this
 refine hK' a' w' (zpp (full:=(o::os).toArray) (W:=wr (.region id (o::os).toArray false)) (E0:=E) (c0:=c) (m0:=m') (w0:=w) (a0:=a) (K:=Q .normal) (fun a' w' hp=>hp) os (k+1) _ c' m' w' a' (by simpa using h) hfit2.2 g1 g5 (g2.freshK hF) g2.up (g4) (fun t ht=>?_) (fun o' ho' d hd=>?_))
 ·cases hd:o.dst with
  | none=>rfl
  | some d=>
    show (if t=d then u0 else E t)=E t;rw [if_neg];rintro rfl
    have:wr (.region id (o::os).toArray false) t=true:=by
     simp only [wr,List.any_eq_true,beq_iff_eq];exact ⟨o,by simp,hd⟩
    rw [this] at ht;cases ht
 ·simp only [wr,List.any_eq_true,beq_iff_eq];exact ⟨o',by simp [ho'],hd⟩
theorem zpm {P:Program} {N:Nat} {π:Pa} {k:Nat} {E:Env} {m:M} {Q:Exit->Nat->Env->M->Prop} {id t d1 d2:Nat} {T T1 T2 T3:TypeId} {e:TypeId} {p1 p2:String} {a1 a2:Array Edge} {o:Own} {r:List V} {rows:List (List V)} (hx:E t=.list o (r::rows)) (hT:P.underlying T=some (.slice e))
  (h:Q .normal (k+2) (upd (upd E d1 (.list o (r::rows))) d2 (.lit (.bool false))) m):SW P N π (.region id #[⟨some d1,.move (.tmp t),T1,p1,a1,none⟩,⟨some d2,.binOp .eql T (.tmp d1) (.const (.slice none 0 0)) T2,T3,p2,a2,none⟩] false) k E m Q:=by
 intro hf c a w hR hE hF
 have hd:d1<N/\d2<N:=by
  simpa [fits,zhX] using hf
 refine wp_region_list ?_;refine BigFrame.wpList_want (by simp [Region.wanted]) fun K1 hK1=>?_;have s1:zbL P ⟨some d1,.move (.tmp t),T1,p1,a1,none⟩ (k::π) E m (fun v m1=>v=.list o (r::rows)/\m1=m):=⟨hx,rfl⟩;refine Oper.wp_mono ?_ (zgo (N:=N) s1 hR hE hF.at_ (fun d e=>by injection e with e;rw [←e];exact hd.1) _);rintro a' w' ⟨c',v,m',⟨rfl,rfl⟩,g1,g2,g3,g4⟩;refine hK1 a' w' ?_;refine BigFrame.wpList_want (by simp [Region.wanted]) fun K2 hK2=>?_
 have hv:CR c' [.list o (r::rows)] [a'.tmps.getD d1 undef]:=by
  have:=g3.at_ d1;have e:putE (some d1) (V.list o (r::rows)) E d1=.list o (r::rows):=if_pos rfl;rw [e] at this;exact this
 obtain ⟨ad,cap,es,sz,he,k1,k2,kz,k3,k4,k5,_⟩:=hv.inv_list;obtain ⟨b,off,rfl⟩:=k5 (by simp)
 have hrun:(execOp a'.eval ⟨some d2,.binOp .eql T (.tmp d1) (.const (.slice none 0 0)) T2,T3,p2,a2,none⟩).run P w'=.ok (.value (.bool false)) w':=by
  have e1:a'.eval (.tmp d1)=.slice (some ⟨b,off,none⟩) (r::rows).length cap:=he;have e2:a'.eval (.const (.slice none 0 0))=.slice none 0 0:=rfl;show Sem.run P (do pure (Next.value (←(do eqGuard .eql T (.tmp d1) (.const (.slice none 0 0)) (a'.eval (.tmp d1)) (a'.eval (.const (.slice none 0 0)));binOp .eql T (a'.eval (.tmp d1)) (a'.eval (.const (.slice none 0 0))):Sem Value)))) w'=_;rw [e1,e2]
  have heq:∀d n c,(Op.equalIn (d+1) T (.slice (some ⟨b,off,none⟩) n c) (.slice none 0 0)).run P w'=.ok false w':=fun d n c=>by
   unfold Op.equalIn;simp [run_underlying hT]
  have heq2:∀n c,(Op.equal T (.slice (some ⟨b,off,none⟩) n c) (.slice none 0 0)).run P w'=.ok false w':=fun n c=>heq _ n c;simp [eqGuard,binOp,heq2]
 refine Oper.wp_mono ?_ (zcp (C:=fun v m1=>v=.lit (.bool false)/\m1=m') (q:=(k+1)::π) g3 (fun d e=>by injection e with e;rw [←e];exact hd.2) hrun ⟨rfl,rfl⟩ g1 (.refl _ c' m' w') (.lit .nil));rintro a'' w'' ⟨c'',v,m'',⟨rfl,rfl⟩,q1,q2,q3,q4⟩;refine hK2 a'' w'' ⟨c'',k+2,_,m'',h,q1,g2.up.trans q2.up,q3,?_,q4.trans g4,fun t ht=>?_⟩
 ·exact q2.freshK (g2.freshK hF)
 ·have h0:t ≠ d1/\t ≠ d2:=by
   simp only [wr,List.any_cons,List.any_nil,Bool.or_false,Bool.or_eq_false_iff] at ht;exact ⟨fun e=>by rw [e] at ht;simp at ht,fun e=>by rw [e] at ht;simp at ht⟩
  show (if t=d2 then _ else if t=d1 then _ else E t)=E t;rw [if_neg h0.2,if_neg h0.1]
theorem zpf:∀ {l:List Int},List.map V.toHp (List.map (cI .u32) l).flatten=List.map cU32 l
 | []=>rfl
 | x::l=>by
   rw [List.map_cons,List.flatten_cons,List.map_append,zpf,List.map_cons];rfl
theorem clone_sc {l:List Int} (hl:0<l.length) (hl2:l.length<=1073741824) (q:Pa) (m:M) (vs:List V) (hv:vs.map V.weak1=[.list .none (l.map (cI .u32))]) :
  SC Tryz.prog 59 vs q m (fun v m'=>v=.vec (5::q) 1 l.length/\m'=m.hset (5::q) (l.map cU32)):=by
 refine SC.weak ?_;rw [hv];refine SC_w Tryz.func59 rfl (fun xs w=>Tryz.call59 xs w) Tryz.ntmps59 (by kernel_rfl) Tryz.results59 ?_;refine zan fun K hK=>?_;simp only [go_sem];apply hK;obtain ⟨x,l,rfl⟩:∃x l',l=x::l':=by cases l with | nil=>simp at hl | cons x l=>exact ⟨x,l,rfl⟩
 refine zah ?_;refine zah ?_;refine zpm (e:=42) (o:=.none) (r:=cI .u32 x) (rows:=l.map (cI .u32)) (by simp only [go_sem,seval,List.map_cons,List.map_cons]) (by kernel_rfl) ?_;simp only [zaa];refine zcH false (by simp only [go_sem,↓reduceIte,List.map_cons]) ?_;simp only [↓reduceIte,Bool.false_eq_true];refine zav ?_
 try simp only [zaa]
 refine zah ?_;refine SW_reg1 (.list .exact []) .nilv rfl (fun c x hx=>?_) ?_ fun K hK=>?_
 ·obtain ⟨a,cap,es,sz,rfl,k1,k2,kz,k3,k4,k5,k6,kc,k7⟩:=hx.inv_list;obtain ⟨rfl,_⟩:=k7;exact .nilv .nil
 ·simp only [zbL];simp only [go_sem,Nat.reduceLT,List.map_cons,List.map_nil,and_true,List.length_nil]
 ·simp only [go_sem,seval,List.map_cons,true_and,and_true,List.length_cons,List.length_nil,List.length_map,List.forall_mem_cons,implies_true,List.map_cons];refine ⟨by omega,by simp only [List.length_cons] at hl2;omega,?_⟩;apply hK;simp only [zaa];refine zau ?_;refine ⟨by first | exact .inl rfl | exact .inl trivial,?_⟩;simp only [go_sem,↓reduceIte,List.map_cons,List.nil_append,List.cons_append,true_and,List.length_cons,List.map_cons,List.flatten_cons,zfK,zcx,zak];rw [zpf]
theorem Rep.reHp {c:Conc} {m:M} {w:World} (h:Rep c m w) {A:Pa} {vs us:List V} (hv:m.hp A=some vs) (hw:Wks c vs us) (q:Pa):Rep c (m.hset A us) w/\Abs.Ext q c m w c (m.hset A us) w:=by
 obtain ⟨b,n,hk,cs,t,hB,hl,hcr,hone⟩:=h.hpr A vs hv;have hlen:=hw.len;exact h.hwrite q hv hk hB hB rfl (World.grownBy.refl _ _) (by rw [hlen];exact hl) (by rw [hlen];exact Wks.ok (.refl c) hw hcr) hone
def fRef (hs:List (List Int)) (k:Int):V:=if k<0 then .nilv else .list .none ((hs.getD k.toNat []).map (cI .u32))
theorem SW_frz {P:Program} {N:Nat} {π:Pa} {k:Nat} {E:Env} {m:M} {Q:Exit->Nat->Env->M->Prop} {code:Code} {W A:Pa} {AS:List Pa} {LS:List Nat} {ws rs:List Int} {hs:List (List Int)} (kk:HOk m.hp W A AS LS ws rs hs) (hrs:∀i ∈ rs,i<(hs.length:Int))
  (h:∀h':Hp,h' A=some (rs.map (fRef hs))->SW P N π code k E (m.seth h') Q):SW P N π code k E m Q:=by
 intro hf c a w h1 h2 h3
 obtain ⟨c',g1,g2,g3⟩:=h1.freezeL AS (fun id hi=>by
  obtain ⟨i,l,e1,e2⟩:=kk.find hi;rw [kk.at_ i id l e1 e2];simp)
 have hA:(m.seth (zkD m.hp AS)).hp A=some (rs.map (cRef AS LS)):=by
  show (if A ∈ AS then none else m.hp A)=_;rw [if_neg kk.aas,kk.a]
 have hw:∀l:List Int,(∀i ∈ l,i<(hs.length:Int))->Wks c' (l.map (cRef AS LS)) (l.map (fRef hs)):=by
  intro l
  induction l with
  | nil=>intro _;exact trivial
  | cons i l ih=>
    intro hl;refine ⟨?_,ih fun j hj=>hl j (by simp [hj])⟩
    by_cases hi:i<0
    ·have e1:cRef AS LS i=.nilv:=if_pos hi;have e2:fRef hs i=.nilv:=if_pos hi;rw [e1,e2];exact Wk.refl _ _
    ·have hil:=hl i (by simp);have hit:i.toNat<hs.length:=by omega
     obtain ⟨x,e1,e2,e3,_,_⟩:=kk.get (i:=i) (by omega) (List.getElem?_eq_getElem hit)
     have e4:fRef hs i=.list .none (hs[i.toNat].map (cI .u32)):=by
      unfold fRef;rw [if_neg hi,List.getD_eq_getElem?_getD,List.getElem?_eq_getElem hit];rfl
     rw [e1,e4]
     have:=g3 x (List.mem_of_getElem? e3) _ e2 1 (hs[i.toNat].map (cI .u32)) (by
      rw [List.length_map,Nat.mul_one,List.take_of_length_le (by rw [List.length_map];exact Nat.le_refl _)]
      generalize hs[i.toNat]=l
      induction l with
      | nil=>rfl
      | cons y l ih=>rw [List.map_cons,List.map_cons,List.flatten_cons,←ih];rfl) (fun r hr=>by
      obtain ⟨y,_,rfl⟩:=List.mem_map.1 hr;rfl)
     rw [List.length_map] at this;exact this
 obtain ⟨r1,r2⟩:=g1.reHp hA (hw rs hrs) π;have hX:=(g2 π).trans r2;refine wp_mono (h ((m.seth (zkD m.hp AS)).hset A (rs.map (fRef hs))).hp (by show (if A=A then _ else _)=_;rw [if_pos rfl]) hf c' a w r1 ⟨h2.size,fun t=>(h2.at_ t).mono hX.le⟩ (fun j hj id hid=>?_)) fun e a' w' hp=>?_
 ·exact ((g2 (0::id)).trans (g1.reHp hA (hw rs hrs) (0::id)).2).fresh id (fun hs=>by have:=hs.length_le;simp only [List.length_cons] at this;omega) (h3 j hj id hid)
 ·exact hp.trans hX rfl (fun _ _=>rfl) (fun t ht=>⟨ht,ht⟩)
theorem fRef_at {hs:List (List Int)} {k:Int} {l:List Int} (h0:0<=k) (h:hs[k.toNat]? = some l):fRef hs k=.list .none (l.map (cI .u32)):=by
 unfold fRef;rw [if_neg (by omega),List.getD_eq_getElem?_getD,h];rfl
theorem znX {rn:zai} {fr:zal} {hs:List (List Int)} {x:zbD} (h:zkA rn fr hs=some x) (q:Pa) (m:M) (vs:List V) (P0 P1:Pa) (z:Nat) (W A:Pa) (AS:List Pa) (LS:List Nat) (hv:vs.map V.weak1=[.ptr P0 0,.ptr P1 0]) (hmP0:m.blk P0=some (rnC rn)) (hmP1:m.blk P1=some (frC W A fr)) (hvr:m.ver P0 4=z+rn.za4.length) (hkF:HOk m.hp W A AS LS fr.za2 fr.zbm hs) (hn01:(P0=P1)=False) (hn10:(P1=P0)=False) :
  SC Tryz.prog 61 vs q m (fun v m'=>∃h',v=.agg (zbD.C x)/\m'=m.seth h'):=by
 refine SC.weak ?_;rw [hv];refine SC.apart hmP0 fun hpP0=>?_;refine SC.apart hmP1 fun hpP1=>?_;refine SC_w Tryz.func61 rfl (fun xs w=>Tryz.call61 xs w) Tryz.ntmps61 (by kernel_rfl) Tryz.results61 ?_;unfold zkA at h;obtain ⟨⟨hrs,hp0,hp1,hvl⟩,h⟩:=zaM h;obtain ⟨oa,hoa,h⟩:=bind_some h;obtain rfl:=zag h;refine SW_frz hkF hrs fun h' hA=>?_;have hb0:=hmP0;have hb1:=hmP1;simp only [go_sem,List.nil_append,List.cons_append,rnC] at hb0 hb1
 repeat refine zah ?_
 refine zao fun K hK=>?_;simp only [go_sem,List.map_cons,List.map_nil];apply hK
 repeat refine zah ?_
 refine zaO (tbl:=[0,1,3,7,0,16,48,112,255,0,1023]) (ord:=[(0,0),(1,0),(2,0),(3,0),(4,0),(5,0),(6,0),(7,0),(8,0),(9,0),(10,0)]) 12 rfl (by kernel_rfl) (by kernel_rfl) fun K hK=>?_;simp only [go_sem,seval,List.map_cons,List.map_nil,List.nil_append,List.append_nil,List.cons_append,true_and,and_true,List.drop_succ_cons,List.drop_zero,List.take_succ_cons,List.take_zero,List.set_cons_zero,List.set_cons_succ,List.length_cons,List.length_nil,List.getElem?_cons_zero,List.getElem?_cons_succ,pz2 hpP0,hb0];apply hK;simp only [zaa]
 repeat refine zah ?_
 refine zao fun K hK=>?_;simp only [go_sem,seval,and_true,List.drop_succ_cons,List.drop_zero,pz2 hpP0,hb0];apply hK;refine zbf 23 [] [] rfl (fun E' m'=>E' 0=.ptr P0 0/\E' 1=.ptr P1 0/\E' 4=.ptr (0::q) 0/\E' 5=.ptr (10::q) 0/\m'.blk (10::q)=some [.lit (.int .i64 rn.zcI),.lit (.int .u64 (if rn.zcI=0 then fr.zgF else 0)),.list .self [],.list .none (rn.za4.map zay.C)]/\m'.blk (0::q)=some [.lit (.int .i64 0),.lit (.int .u64 0),.list .self [],.list .self []]/\m'.blk P0=m.blk P0/\m'.blk P1=m.blk P1/\m'.gl=m.gl/\m'.hp=h'/\m.back q m'=m.seth h') ?_ ?_
 ·refine zbn (rn.zcI == 0) (fun c1=>?_) (fun c1=>?_)
  ·refine zca fun K hK=>?_;simp only [go_sem,seval,true_and,List.drop_succ_cons,List.drop_zero,List.set_cons_zero,List.set_cons_succ,List.length_cons,List.length_nil,pz2 hpP1,hb1];apply hK;refine ⟨by decide,?_⟩;rw [if_pos (by simpa using c1)];simp only [go_sem,seval,and_true,pz2 hpP0,pz2 hpP1,zam,zaY,zcx,zak]
  ·refine zav ?_;refine ⟨by decide,?_⟩;rw [if_neg (by simpa using c1)];simp only [go_sem,seval,and_true,pz2 hpP0,pz2 hpP1,zam,zaY,zcx,zak]
 ·rintro E1 m1 ⟨e0,e1,e4,e5,b10,b0,bP0,bP1,gl1,hp1',bk⟩ _;simp only [zaa];have hc1:=bP1.trans hmP1;simp only [go_sem] at hc1
  repeat refine zah ?_
  refine zaO (tbl:=[0,1,3,7,15,0,32,96,224,480,1023,2047,0]) (ord:=[(0,0),(1,0),(2,0),(3,0),(4,0),(5,0),(6,0),(7,0),(8,0),(9,0),(10,0),(11,0),(12,0)]) 36 rfl (by kernel_rfl) (by kernel_rfl) fun K hK=>?_;simp only [go_sem,seval,Option.map_some,Option.map_none,true_and,List.drop_succ_cons,List.drop_zero,List.take_zero,List.length_cons,List.length_nil,List.length_map,implies_true,e1,hc1,hp0,hp1];apply hK;simp only [zaa];refine zaG ?_;obtain ⟨p,hp⟩:∃p:Nat,fr.f_.zbd.toNat=p:=⟨_,rfl⟩;rw [hp] at hoa;simp only [hp];have hpl:p<=fr.f_.zbg.length:=by omega
  have hlen:(fr.f_.zbg.take p).length=p:=by rw [List.length_take];omega
  refine zkL (fun c E' m'=>∃(l:List zaD) (v:Nat) (out:List (List Int)),c=l.length/\(fr.f_.zbg.take p).drop v=l/\v<=(fr.f_.zbg.take p).length/\outL hs l v fr.zbm out=some oa/\out.length<=v ∧
   E' 1=.ptr P1 0/\E' 4=.ptr (0::q) 0/\E' 5=.ptr (10::q) 0/\E' 37=.list .none ((fr.f_.zbg.take p).map zaD.C)/\E' 38=.lit (.int .i64 ((fr.f_.zbg.take p).length:Int))/\E' 39=.lit (.int .i64 (v:Int)) ∧
   m'.blk (10::q)=some [.lit (.int .i64 rn.zcI),.lit (.int .u64 (if rn.zcI=0 then fr.zgF else 0)),.list .self (out.map (cL (cI .u32))),.list .none (rn.za4.map zay.C)]/\m'.blk (0::q)=some [.lit (.int .i64 0),.lit (.int .u64 0),.list .self [],.list .self []]/\m'.blk P1=m.blk P1/\m'.gl=m.gl/\m'.hp=h'/\m.back q m'=m.seth h') (fr.f_.zbg.take p).length ?_ ?_
  ·refine ⟨fr.f_.zbg.take p,0,[],rfl,rfl,Nat.zero_le _,hoa,Nat.le_refl _,?_⟩;refine ⟨?_,?_,?_,?_,?_,?_,?_,?_,?_,?_,?_,?_⟩
   all_goals try simp only [go_sem,seval,List.map_nil,e1,e4,e5,b10,b0,bP1,gl1,hp1',bk,List.length_take]
  ·rintro i c E2 m2 ⟨l,v,out,rfl,hl,hvl1,hol,hov,e1,e4,e5,e37,e38,e39,b10,b0,bP1,gl2,hp2,bk⟩ _;have hc1:=bP1.trans hmP1;simp only [go_sem] at hc1;refine zan fun K hK=>?_;simp only [go_sem,e38,e39];apply hK;refine zah ?_;cases l with
   | nil=>
     have hvv:¬ v<(fr.f_.zbg.take p).length:=by
      have:=congrArg List.length hl;simp only [List.length_drop,List.length_nil] at this;omega
     refine zcH false (by simp only [go_sem,↓reduceIte];exact congrArg (fun b=>V.lit (.bool b)) (decide_eq_false (by simp only [List.length_take] at hvv ⊢;omega))) ?_;simp only [↓reduceIte,Bool.false_eq_true];refine zbG ?_
     try simp only [zaS,zaK,↓reduceIte,zaa]
     rw [outL] at hol;obtain rfl:=zag hol
     repeat refine zah ?_
     refine zao fun K hK=>?_;simp only [go_sem,seval,List.map_cons,List.map_nil,true_and,List.drop_zero,List.take_succ_cons,List.take_zero,List.set_cons_zero,List.set_cons_succ,List.length_cons,List.length_nil,e4,e5,b10,b0];apply hK;refine zau ?_;refine ⟨by first | exact .inl rfl | exact .inl trivial,?_⟩;simp only [go_sem,seval,List.map_cons,List.map_nil,true_and,List.drop_zero,List.take_succ_cons,List.take_zero,List.length_cons,List.length_nil,e4,zam,bk];exact ⟨h',rfl⟩
   | cons x l=>
     have hvb:v<(fr.f_.zbg.take p).length:=by
      have:=congrArg List.length hl;simp only [List.length_drop,List.length_cons] at this;omega
     have hx:(fr.f_.zbg.take p)[v]? = some x:=by
      have:=congrArg List.head? hl;simpa [List.head?_drop] using this
     have hl2:(fr.f_.zbg.take p).drop (v+1)=l:=by
      have:=congrArg List.tail hl;rw [List.tail_drop] at this;exact this
     have g1:(0:Int)<=(v:Int):=Int.natCast_nonneg _;have g2:(v:Int)<((fr.f_.zbg.take p).length:Int):=by omega
     have hw:IntKind.i64.wrap ((v:Int)+1)=((v+1:Nat):Int):=by rw [zkW (by omega) (by omega)];omega
     refine zcH true (by simp only [go_sem,↓reduceIte];exact congrArg (fun b=>V.lit (.bool b)) (decide_eq_true g2)) ?_;simp only [↓reduceIte];refine zav ?_
     try simp only [zaa]
     refine zah ?_;refine zaG ?_;refine zan fun K hK=>?_;simp only [go_sem,seval,List.map_cons,List.map_nil,Option.map_some,true_and,List.drop_zero,List.take_succ_cons,List.take_zero,List.set_cons_zero,List.set_cons_succ,List.length_cons,List.length_nil,List.length_map,List.getElem?_map,implies_true,e37,e39,g1,g2,Int.toNat_natCast,hx];apply hK;refine zan fun K hK=>?_;simp only [go_sem,seval,List.drop_succ_cons,List.drop_zero];apply hK;rw [outL] at hol;refine zbn (x.zbA == 4) (fun c1=>?_) (fun c1=>?_)
     ·rw [if_pos (by simpa using c1)] at hol;obtain ⟨k,hk,hol⟩:=bind_some hol;obtain ⟨s1,hol⟩:=zaM hol;obtain ⟨a,ha,hol⟩:=bind_some hol;obtain ⟨j0,j1,j2⟩:=zaw hk;obtain ⟨_,_,a2⟩:=zaw ha;obtain ⟨w1,d4⟩:=zfD (f:=fRef hs) j2;rw [Int.toNat_natCast] at d4;have d5:=fRef_at s1 a2;refine zaO (tbl:=[0,1,0,4,12,28,0,124,252,508,1023,2047,4095]) (ord:=[(0,0),(1,0),(2,0),(3,0),(4,0),(5,0),(6,0),(7,0),(8,0),(9,0),(10,0),(11,0),(12,0)]) 23 rfl (by kernel_rfl) (by kernel_rfl) fun K hK=>?_;simp only [go_sem,seval,List.map_cons,List.map_nil,true_and,and_true,List.drop_succ_cons,List.drop_zero,List.take_zero,List.set_cons_zero,List.set_cons_succ,List.length_cons,List.length_nil,List.length_map,List.forall_mem_cons,List.not_mem_nil,false_implies,implies_true,beq_self_eq_true,Bool.or_true,Bool.and_true,pz2 hpP1,e1,e5,hc1,b10,hp2,hA,d4,d5,j1,g1,Int.toNat_natCast];refine ⟨by omega,?_⟩;apply hK;simp only [zaa,zaq];refine zao fun K hK=>?_;simp only [go_sem,seval,e39];apply hK;refine ⟨l.length,Nat.lt_succ_self _,l,v+1,out++[a],rfl,hl2,by omega,hol,by rw [List.length_append,List.length_singleton];omega,?_⟩;refine ⟨?_,?_,?_,?_,?_,?_,?_,?_,?_,?_,?_,?_⟩
      all_goals try simp only [go_sem,seval,List.map_cons,List.map_nil,and_true,pz2 hpP1,e1,e4,e5,e37,e38,hw,b0,bP1,gl2,hp2,bk,zam,zaY,zaW,List.map_append]
     ·rw [if_neg (by simpa using c1)] at hol;refine zav ?_
      try simp only [zaa,zaq]
      refine zao fun K hK=>?_;simp only [go_sem,seval,e39];apply hK;refine ⟨l.length,Nat.lt_succ_self _,l,v+1,out,rfl,hl2,by omega,hol,by omega,?_⟩;refine ⟨?_,?_,?_,?_,?_,?_,?_,?_,?_,?_,?_,?_⟩
      all_goals try simp only [go_sem,seval,pz2 hpP1,e1,e4,e5,e37,e38,hw,b10,b0,bP1,gl2,hp2,bk,zam]
end Go.Proofs.YtldnmmnnohnpkaaGreatDoor.Abs
namespace Go.Proofs.YtldnmmnnohnpkaaGreatDoor.Abs
set_option linter.unusedVariables false
open Go.RowKit
set_option maxRecDepth 10000
theorem zog {P:Program} {N:Nat} {π:Pa} {k:Nat} {E:Env} {m:M} {Q:Exit->Nat->Env->M->Prop} {x:Code} (h:(∀j,k<=j->∀i,(j::π) <:+ i->m.hp i=none)->SW P N π x k E m Q):SW P N π x k E m Q:=by
 intro hf c a w h1 h2 h3;exact h (fun j hj i hi=>h1.fresh_hp (h3 j hj i hi)) hf c a w h1 h2 h3
theorem HOk.push {h:Hp} {W A id:Pa} {AS:List Pa} {LS:List Nat} {ws rs:List Int} {hs:List (List Int)} (k:HOk h W A AS LS ws rs hs) (hid:h id=none) (hrs:∀r ∈ rs,r<(hs.length:Int)) (x:List Int) (v:Nat) :
  HOk (putH (putH h id (x.map cU32)) A ((rs.map (cRef AS LS)).set v (.vec id 1 x.length))) W A (AS++[id]) (LS++[x.length]) ws (rs.set v (hs.length:Int)) (hs++[x]):=by
 have hW:W ≠ id:=fun e=>by have:=k.w;rw [e,hid] at this;cases this
 have hA:A ≠ id:=fun e=>by have:=k.a;rw [e,hid] at this;cases this
 have hn:id ∉ AS:=fun e=>by
  obtain ⟨i,l,e1,e2⟩:=k.find e;have:=k.at_ i id l e1 e2;rw [hid] at this;cases this
 have hl:LS.length=AS.length:=by rw [k.ls,List.length_map,k.len]
 refine ⟨?_,?_,k.wa,fun hm=>?_,fun hm=>?_,List.nodup_append.2 ⟨k.nd,by simp,fun a ha b hb e=>?_⟩,by rw [List.map_append,k.ls];rfl,by simp [k.len],fun i a l h1 h2=>?_⟩
 ·show (if W=A then _ else if W=id then _ else h W)=_;rw [if_neg k.wa,if_neg hW,k.w]
 ·show (if A=A then _ else _)=_;rw [if_pos rfl]
  congr 1
  rw [List.map_set,←k.len,zmK hl]
  congr 1
  exact List.map_congr_left fun r hr=>(znG (by rw [k.len];exact hrs r hr) hl).symm
 ·rcases List.mem_append.1 hm with hm | hm
  ·exact k.was hm
  ·exact hW (List.mem_singleton.1 hm)
 ·rcases List.mem_append.1 hm with hm | hm
  ·exact k.aas hm
  ·exact hA (List.mem_singleton.1 hm)
 ·rw [List.mem_singleton] at hb;subst hb;subst e;exact hn ha
 ·have hne:a ≠ A:=fun e=>by
   have hm:=List.mem_of_getElem? h1
   rcases List.mem_append.1 hm with hm | hm
   ·exact k.aas (by rw [←e];exact hm)
   ·exact hA (by rw [←e];exact List.mem_singleton.1 hm)
  show (if a=A then _ else if a=id then _ else h a)=_;rw [if_neg hne]
  by_cases e:i<AS.length
  ·rw [List.getElem?_append_left e] at h1;rw [List.getElem?_append_left (by rw [←k.len];exact e)] at h2;rw [if_neg (fun e2=>hn (by rw [←e2];exact List.mem_of_getElem? h1))];exact k.at_ i a l h1 h2
  ·rw [List.getElem?_append_right (by omega)] at h1;rw [List.getElem?_append_right (by rw [←k.len];omega),←k.len] at h2
   have hi:i - AS.length=0:=by
    have:=(List.getElem?_eq_some_iff.1 h1).1;simp only [List.length_singleton] at this;omega
   rw [hi] at h1 h2;obtain rfl:id=a:=by simpa using h1
   obtain rfl:x=l:=by simpa using h2
   rw [if_pos rfl]
theorem zmL {m m2:M} {q p0 p1:Pa} {c0 c1:List V} {z:Nat} {h:Hp} (h0:q <:+ p0) (h1:q <:+ p1):m.back q (m2.fr p0 p1 c0 z c1 h)=(m.back q m2).seth h:=by
 have s0:q.isSuffixOf p0=true:=List.isSuffixOf_iff_suffix.2 h0;have s1:q.isSuffixOf p1=true:=List.isSuffixOf_iff_suffix.2 h1;refine M.ext_hp (funext fun i=>?_) (funext fun i=>funext fun o=>?_) rfl rfl rfl
 ·show (if q.isSuffixOf i then m.blk i else if i=p0 then some c0 else if i=p1 then some c1 else m2.blk i)=if q.isSuffixOf i then m.blk i else m2.blk i
  by_cases e:q.isSuffixOf i=true
  ·rw [if_pos e,if_pos e]
  ·rw [if_neg e,if_neg e,if_neg (fun e1=>e (by rw [e1];exact s0)),if_neg (fun e1=>e (by rw [e1];exact s1))]
 ·show (if q.isSuffixOf i then m.ver i else (m2.fr p0 p1 c0 z c1 h).ver i) o=(if q.isSuffixOf i then m.ver i else m2.ver i) o
  by_cases e:q.isSuffixOf i=true
  ·rw [if_pos e,if_pos e]
  ·rw [if_neg e,if_neg e,zj8,if_neg];rintro ⟨rfl,_⟩;exact e s0
theorem zko {p b:Nat}:∀ {l:List zaD} {i:Nat} {rs:List Int} {hs:List (List Int)} {z:List Int × List (List Int)},zmy p l i b rs hs=some z->(∀r ∈ rs,r<((b+hs.length:Nat):Int))->∀r ∈ z.1,r<((b+z.2.length:Nat):Int)
 | [],_,_,_,z,h,hr=>by
   rw [zmy] at h;obtain rfl:=zag h;exact hr
 | v::l,i,rs,hs,z,h,hr=>by
   rw [zmy] at h
   split at h
   ·obtain ⟨_,h⟩:=zaM h;refine zko h fun r hm=>?_;rw [List.length_append,List.length_singleton]
    rcases List.mem_or_eq_of_mem_set hm with hm | hm
    ·have:=hr r hm;omega
    ·omega
   ·exact zko h hr
def zmF (f:zas->Int->zbi->Int->Option (zbD × Int)):Prop:=∀a0 a1 a2 a3 r,f a0 a1 a2 a3=some r->∀(q:Pa) (m:M) (vs:List V),vs.map V.weak1=[.agg ((zas.C a0)),.lit (.int .i64 a1),.agg ((zbi.C a2)),.lit (.int .i64 a3)]/\(m.hp=fun _=>none)/\m.gl 0=.eptr [(cA zaJ.C zbx)] 0 0->SC Tryz.prog 29 vs q m (fun v m'=>v=.tup [.agg ((zbD.C r.1)),.lit (.int .i64 r.2)]/\m'=m)
theorem ziO (n:Nat):zmF (zgi n):=by
 rintro p fn a fuel r h q m vs ⟨hv,hhp,hg⟩;refine SC.weak ?_;rw [hv];refine SC.noheap ?_;refine SC_w Tryz.func29 rfl (fun xs w=>Tryz.call29 xs w) Tryz.ntmps29 (by kernel_rfl) Tryz.results29 ?_;have hm0:m.seth (fun _=>none)=m:=M.ext_hp rfl rfl rfl rfl hhp.symm;unfold zgi at h
 repeat refine zah ?_
 refine zao fun K hK=>?_;simp only [go_sem,seval,List.map_cons,List.map_nil,true_and];apply hK
 repeat refine zah ?_
 by_cases hr:fn<0 ∨ (p.zbp.length:Int)<=fn
 ·rw [if_pos hr] at h;obtain rfl:=zag h
  have hcond:decide (fn<0)=true ∨ (decide (fn<0)=false/\decide ((p.zbp.length:Int)<=fn)=true):=by
   by_cases e:fn<0
   ·exact .inl (decide_eq_true e)
   ·exact .inr ⟨decide_eq_false e,decide_eq_true (hr.resolve_left e)⟩
  refine zbf 13 [] [] rfl (fun E' m'=>E' 24=.lit (.bool true)/\E' 8=.ptr (2::q) 0/\m'.blk (2::q)=some [.lit (.int .i64 0),.lit (.int .u64 0),.list .self [],.list .self []]/\m.back q m'=m) ?_ ?_
  ·rcases hcond with c1 | ⟨c1,c2⟩
   ·refine zca fun K hK=>?_;simp only [go_sem,seval,c1];apply hK;refine ⟨by decide,?_⟩;simp only [go_sem,seval,and_true,zam,zak]
   ·refine zca fun K hK=>?_;simp only [go_sem,seval,Nat.zero_ne_one,and_true,List.drop_zero,List.length_map,c1,c2];apply hK;refine ⟨by decide,?_⟩;simp only [go_sem,seval,and_true,zam,zak]
  ·rintro E1 m1 ⟨e24,e8,b2,bk⟩ _;simp only [zaa]
   repeat refine zah ?_
   refine zcH true (by simp only [go_sem,e24]) ?_;simp only [↓reduceIte]
   repeat refine zah ?_
   refine zao fun K hK=>?_;simp only [go_sem,seval,List.map_nil,true_and,List.set_cons_zero,List.set_cons_succ,List.length_cons,List.length_nil,e8,b2];apply hK;refine zau ?_
   try simp only [zat]
   refine ⟨by first | exact .inl rfl | exact .inl trivial,?_⟩;simp only [go_sem,seval,List.map_cons,List.map_nil,true_and,and_true,List.drop_zero,List.take_succ_cons,List.take_zero,List.length_cons,List.length_nil,e8,zam,zaY,bk,hm0];rfl
 ·rw [if_neg hr] at h;obtain ⟨f,hf,h⟩:=bind_some h;obtain ⟨i0,i1,i2⟩:=zaw hf;obtain ⟨o,ho,h⟩:=bind_some h;obtain ⟨ft,hft,h⟩:=bind_some h;have c1:decide (fn<0)=false:=decide_eq_false (by omega);have c2:decide ((p.zbp.length:Int)<=fn)=false:=decide_eq_false (by omega);refine zao fun K hK=>?_;simp only [go_sem,seval,Nat.zero_ne_one,and_true,List.drop_zero,List.length_map,c1,c2];apply hK
  repeat refine zah ?_
  refine zcH false (by simp only [go_sem,↓reduceIte]) ?_;simp only [↓reduceIte,Bool.false_eq_true];refine zav ?_
  try simp only [zaa]
  repeat refine zah ?_
  refine zao fun K hK=>?_;simp only [go_sem,seval,Nat.zero_ne_one,List.map_cons,List.map_nil,Option.map_some,List.nil_append,List.append_nil,true_and,and_true,List.drop_zero,List.take_succ_cons,List.take_zero,List.length_cons,List.length_nil,List.length_map,List.getElem?_map,implies_true,i0,i1,i2];refine SC.mono (zoO (b:=0) ho _ _ _ [] [] rfl rfl (by simp only [go_sem,List.map_cons,List.map_nil,zaI.C_eq])) ?_;rintro _ _ ⟨AS2,h',rfl,rfl,hO⟩;simp only [go_sem,seval];apply hK
  have kB:HOk h' (6::18::q) (10::18::q) AS2 (o.2.map List.length) o.1.za2 o.1.zbm o.2:=by
   refine ⟨hO.w,by simpa using hO.a,by simp,fun hm=>?_,fun hm=>?_,hO.nd,rfl,hO.len,hO.at_⟩
   ·obtain ⟨j,i,e⟩:=hO.un _ hm;have:=congrArg List.length e;simp only [List.length_cons] at this;omega
   ·obtain ⟨j,i,e⟩:=hO.un _ hm;have:=congrArg List.length e;simp only [List.length_cons] at this;omega
  have hof:o.1.f_=f/\0<=f.zbd/\f.zbd<=(f.zbg.length:Int)/\f.zbg.length<=1000000:=by
   unfold zkB at ho;obtain ⟨⟨q1,q2,q3⟩,ho⟩:=zaM ho;obtain ⟨_,_,ho⟩:=bind_some ho;obtain rfl:=zag ho;exact ⟨rfl,q1,q2,q3⟩
  obtain ⟨hof,hp0,hp1,hvl⟩:=hof
  repeat refine zah ?_
  refine zaO (tbl:=[0,1,3,7,0,31,63]) (ord:=[(0,0),(1,0),(2,0),(3,0),(4,0),(5,0),(6,0)]) 27 rfl (by kernel_rfl) (by kernel_rfl) fun K hK=>?_;simp only [go_sem,seval,List.map_cons,List.map_nil,true_and,and_true,List.drop_zero,List.take_succ_cons,List.take_zero,List.length_cons,List.length_nil,hof];refine zaT (zlx n f a _ hft _ _ _ (by simp only [go_sem,List.map_cons,List.map_nil,List.nil_append,List.append_nil])) rfl ?_;simp only [go_sem,↓reduceIte];apply hK;simp only [zaa]
  repeat refine zah ?_
  cases ft with
  | false=>
    rw [if_pos rfl] at h;obtain rfl:=zag h;refine zcH true (by simp only [go_sem,↓reduceIte,Bool.not_false]) ?_;simp only [↓reduceIte]
    repeat refine zah ?_
    refine zao fun K hK=>?_;simp only [go_sem,seval,List.map_nil,true_and,List.set_cons_zero,List.set_cons_succ,List.length_cons,List.length_nil,Bool.not_false];apply hK;refine zau ?_
    try simp only [zat]
    refine ⟨by first | exact .inl rfl | exact .inl trivial,?_⟩;simp only [go_sem,seval,List.map_cons,List.map_nil,true_and,and_true,List.drop_zero,List.take_succ_cons,List.take_zero,List.length_cons,List.length_nil,zam,zaY,zcx,zgW,zak,hm0];rfl
  | true=>
    rw [if_neg (by simp)] at h;obtain ⟨t,ht,h8⟩:=bind_some h;obtain ⟨b,hb,h9⟩:=bind_some h8;refine zcH false (by simp only [go_sem,↓reduceIte,Bool.not_true]) ?_;simp only [↓reduceIte,Bool.false_eq_true];refine zav ?_
    try simp only [zaa]
    repeat refine zah ?_
    refine zao fun K hK=>?_;simp only [go_sem,Nat.reduceAdd,Bool.not_true];apply hK
    repeat refine zah ?_
    refine zaO (tbl:=[0,1,3,7,15,0,32,96,224,480,1023,2047,0]) (ord:=[(0,0),(1,0),(2,0),(3,0),(4,0),(5,0),(6,0),(7,0),(8,0),(9,0),(10,0),(11,0),(12,0)]) 42 rfl (by kernel_rfl) (by kernel_rfl) fun K hK=>?_;simp only [go_sem,seval,Option.map_some,Option.map_none,true_and,List.drop_succ_cons,List.drop_zero,List.take_zero,List.length_cons,List.length_nil,List.length_map,implies_true,hp0,hp1];apply hK;simp only [zaa];refine zaG ?_;obtain ⟨np,hnp⟩:∃np:Nat,f.zbd.toNat=np:=⟨_,rfl⟩;rw [hnp] at ht;simp only [hnp];have hpl:np<=f.zbg.length:=by omega
    have hor:∀r ∈ o.1.zbm,r<(o.2.length:Int):=by
     unfold zkB at ho;obtain ⟨_,ho⟩:=zaM ho;obtain ⟨z,hz,ho⟩:=bind_some ho;obtain rfl:=zag ho;have:=zko hz (fun r hr=>by rw [(List.mem_replicate.1 hr).2];omega);simpa using this
    refine zkL (fun c E' m'=>∃(l:List zaD) (v w k:Nat) (to:zal) (hs2:List (List Int)) (AS:List Pa) (LS:List Nat),c=l.length/\(f.zbg.take np).drop v=l/\v<=(f.zbg.take np).length/\w<=v/\k<=v/\zjm a l v w k to hs2=some t/\to.f_=f/\(∀r ∈ to.zbm,r<(hs2.length:Int)) ∧
     E' 3=.lit (.int .i64 fuel)/\E' 4=.ptr (0::q) 0/\E' 6=.ptr (1::q) 0/\E' 8=.ptr (2::q) 0/\E' 10=.ptr (12::18::q) 0/\E' 11=.lit (.int .i64 (w:Int))/\E' 12=.lit (.int .i64 (k:Int))/\E' 50=.list .none ((f.zbg.take np).map zaD.C)/\E' 51=.lit (.int .i64 ((f.zbg.take np).length:Int))/\E' 52=.lit (.int .i64 (v:Int)) ∧
     m'.blk (0::q)=some (zas.C p)/\m'.blk (1::q)=some (zbi.C a)/\m'.blk (2::q)=some [.lit (.int .i64 0),.lit (.int .u64 0),.list .self [],.list .self []]/\m'.blk (12::18::q)=some (frC (6::18::q) (10::18::q) to)/\m'.gl=m.gl/\m.back q m'=m.seth m'.hp/\HOk m'.hp (6::18::q) (10::18::q) AS LS to.za2 to.zbm hs2) (f.zbg.take np).length ?_ ?_
    ·refine ⟨f.zbg.take np,0,0,0,o.1,o.2,AS2,o.2.map List.length,rfl,rfl,Nat.zero_le _,Nat.le_refl _,Nat.le_refl _,ht,hof,hor,?_⟩;refine ⟨?_,?_,?_,?_,?_,?_,?_,?_,?_,?_,?_,?_,?_,?_,?_,?_,?_⟩
     all_goals try simp only [go_sem,seval,Nat.zero_ne_one,and_true,List.length_take,zas.C_eq,zbi.C_eq,zam,zcx,zak,hof,kB]
    ·rintro i c E1 m1 ⟨l,v,w,k,to,hs2,AS,LS,rfl,hl,hvl1,hwv,hkv,hra,htf,hrk,e3,e4,e6,e8,e10,e11,e12,e50,e51,e52,b0,b1,b2,b12,gl1,bk,kT⟩ _;have hc:=b12;simp only [go_sem] at hc;refine zan fun K hK=>?_;simp only [go_sem,e51,e52];apply hK;refine zah ?_;cases l with
     | nil=>
       have hvv:¬ v<(f.zbg.take np).length:=by
        have:=congrArg List.length hl;simp only [List.length_drop,List.length_nil] at this;omega
       refine zcH false (by simp only [go_sem,↓reduceIte];exact congrArg (fun b=>V.lit (.bool b)) (decide_eq_false (by simp only [List.length_take] at hvv ⊢;omega))) ?_;simp only [↓reduceIte,Bool.false_eq_true];refine zbG ?_
       try simp only [zaS,zaK,↓reduceIte,zaa]
       rw [zjm] at hra;obtain rfl:=zag hra
       repeat refine zah ?_
       refine zao fun K hK=>?_;simp only [go_sem,seval,List.map_cons,List.map_nil,List.nil_append,List.cons_append,true_and,and_true,List.drop_succ_cons,List.drop_zero,List.take_succ_cons,List.take_zero,List.length_cons,List.length_nil,List.getElem?_cons_zero,List.getElem?_cons_succ,e3,e4,b0,zas.C_eq];apply hK
       repeat refine zah ?_
       refine zao fun K hK=>?_;have gl2:m1.gl 0=_:=(congrFun gl1 _).trans hg;simp only [go_sem,seval,List.map_cons,List.map_nil,List.nil_append,List.append_nil,List.drop_succ_cons,List.drop_zero,e10,hc,htf];refine SC.mono (zh9 n ⟨p,fuel,0,0,[]⟩ to hs2 f.zdB _ hb _ _ _ (46::q) (12::18::q) (m1.ver (46::q) 4) (6::18::q) (10::18::q) AS LS (by simp only [go_sem,seval,List.map_cons,List.map_nil,List.nil_append,List.cons_append,and_true,List.length_nil,hc,htf,kT,gl2])) ?_;rintro _ _ ⟨rfl,rfl,kp⟩;simp only [go_sem,Nat.reduceAdd,List.nil_append,List.cons_append];apply hK
       repeat refine zah ?_
       refine zao fun K hK=>?_;simp only [go_sem,seval,true_and,List.drop_succ_cons,List.drop_zero];apply hK
       repeat refine zah ?_
       refine zbn (b.1.e_ != (0:Int)) (fun c1=>?_) (fun c1=>?_)
       ·rw [if_pos (by simpa using c1)] at h9;obtain rfl:=zag h9
        repeat refine zah ?_
        refine zaO (tbl:=[0,0,2,6,14,1,63]) (ord:=[(0,0),(5,0),(1,0),(2,0),(3,0),(4,1),(6,0)]) 68 rfl (by kernel_rfl) (by kernel_rfl) fun K hK=>?_;simp only [go_sem,seval,List.map_nil,true_and,and_true,List.drop_succ_cons,List.drop_zero,List.take_succ_cons,List.take_zero,List.set_cons_zero,List.set_cons_succ,List.length_cons,List.length_nil,e8,b2];apply hK;simp only [zaa];refine zau ?_
        try simp only [zat]
        refine ⟨by first | exact .inl rfl | exact .inl trivial,?_⟩;simp only [go_sem,↓reduceIte,Nat.reduceEqDiff,Nat.reduceAdd,List.map_cons,List.map_nil,true_and,and_true,List.drop_zero,List.take_succ_cons,List.take_zero,List.length_cons,List.length_nil,e8,zam,zaY,zgW,zmL (show q <:+ 46::q from List.suffix_cons _ _) (show q <:+ 12::18::q from ⟨[12,18],rfl⟩),bk,hm0];rfl
       ·rw [if_neg (by simpa using c1)] at h9;obtain ⟨x,hx,h10⟩:=bind_some h9;obtain rfl:=zag h10;refine zav ?_
        try simp only [zaa]
        repeat refine zah ?_
        refine zao fun K hK=>?_;simp only [go_sem,seval,List.map_cons,List.map_nil,List.nil_append,List.append_nil];refine SC.mono (znX hx _ _ _ (46::q) (12::18::q) (m1.ver (46::q) 4) (6::18::q) (10::18::q) AS LS (by simp only [go_sem,List.map_cons,List.map_nil,e10]) (by simp only [go_sem,↓reduceIte,List.nil_append,List.cons_append,rnC]) (by simp only [go_sem,seval]) (by simp only [go_sem,↓reduceIte,and_true]) (by simp only [go_sem];exact HOk.upk kT kp) (by simp) (by simp)) ?_;rintro _ _ ⟨h3,rfl,rfl⟩;simp only [go_sem,seval,true_and,and_true,List.set_cons_zero,List.set_cons_succ,List.length_cons,List.length_nil,e8,b2];apply hK;refine zau ?_;refine ⟨by first | exact .inl rfl | exact .inl trivial,?_⟩;simp only [go_sem,↓reduceIte,Nat.reduceEqDiff,Nat.reduceAdd,List.map_cons,List.map_nil,and_true,List.drop_zero,List.take_succ_cons,List.take_zero,List.length_cons,List.length_nil,e8,zam,zgW,zmL (show q <:+ 46::q from List.suffix_cons _ _) (show q <:+ 12::18::q from ⟨[12,18],rfl⟩),bk,hm0]
     | cons x l=>
       have hvb:v<(f.zbg.take np).length:=by
        have:=congrArg List.length hl;simp only [List.length_drop,List.length_cons] at this;omega
       have hx:(f.zbg.take np)[v]? = some x:=by
        have:=congrArg List.head? hl;simpa [List.head?_drop] using this
       have hl2:(f.zbg.take np).drop (v+1)=l:=by
        have:=congrArg List.tail hl;rw [List.tail_drop] at this;exact this
       have hnl:(f.zbg.take np).length<=1000000:=by rw [List.length_take];omega
       have g1:(0:Int)<=(v:Int):=Int.natCast_nonneg _;have g2:(v:Int)<((f.zbg.take np).length:Int):=by omega
       have g3:(0:Int)<=(w:Int):=Int.natCast_nonneg _;have g4:(0:Int)<=(k:Int):=Int.natCast_nonneg _;have hw:IntKind.i64.wrap ((v:Int)+1)=((v+1:Nat):Int):=by rw [zkW (by omega) (by omega)];omega
       have hw2:IntKind.i64.wrap ((w:Int)+1)=((w+1:Nat):Int):=by rw [zkW (by omega) (by omega)];omega
       have hw3:IntKind.i64.wrap ((k:Int)+1)=((k+1:Nat):Int):=by rw [zkW (by omega) (by omega)];omega
       refine zcH true (by simp only [go_sem,↓reduceIte];exact congrArg (fun b=>V.lit (.bool b)) (decide_eq_true g2)) ?_;simp only [↓reduceIte];refine zav ?_
       try simp only [zaa]
       refine zah ?_;refine zaG ?_;refine zan fun K hK=>?_;simp only [go_sem,seval,List.map_cons,List.map_nil,Option.map_some,true_and,List.drop_zero,List.take_succ_cons,List.take_zero,List.set_cons_zero,List.set_cons_succ,List.length_cons,List.length_nil,List.length_map,List.getElem?_map,implies_true,e50,e52,g1,g2,Int.toNat_natCast,hx];apply hK
       repeat refine zah ?_
       refine zao fun K hK=>?_;simp only [go_sem,seval,List.drop_succ_cons,List.drop_zero];apply hK;rw [zjm] at hra;refine zbn (x.zbA == 4) (fun c1=>?_) (fun c1=>?_)
       ·rw [if_pos (by simpa using c1)] at hra;obtain ⟨y,hy,hra⟩:=bind_some hra;obtain ⟨⟨s1,s2,s3⟩,hra⟩:=zaM hra;obtain ⟨j0,j1,j2⟩:=zaw hy;rw [Int.toNat_natCast] at j2;refine zah ?_;refine zog fun hfr2=>?_;have q0:m1.hp (5::20::i::42::q)=none:=by have:=hfr2 20 (by omega) (5::20::i::42::q) ⟨[5],rfl⟩;simpa only [go_sem,↓reduceIte,Nat.reduceEqDiff,Nat.reduceAdd,Nat.reduceSub,Nat.reduceMul,Nat.reduceLT,Nat.reduceLeDiff,Nat.reduceBEq,Nat.reduceBNe,reduceCtorEq,Nat.zero_ne_one,Nat.one_ne_zero,List.map_cons,List.map_nil,List.toList_toArray,Option.map_some,Option.map_none,List.nil_append,List.append_nil,List.cons_append,true_and,and_true,List.drop_succ_cons,List.drop_zero,List.take_succ_cons,List.take_zero,List.set_cons_zero,List.set_cons_succ,List.length_cons,List.length_nil,List.length_map,List.getElem?_cons_zero,List.getElem?_cons_succ,List.getElem?_map,List.forall_mem_cons,List.not_mem_nil,false_implies,implies_true,Bool.not_true,Bool.not_false,beq_self_eq_true,Bool.or_true,Bool.true_or,Bool.and_true,Bool.true_and] using this
        refine zaO (tbl:=[0,1,3,7,0,0,32,0,224,480,992,2047,4095]) (ord:=[(5,0),(6,0),(7,0),(8,0),(9,0),(10,0),(0,0),(1,0),(2,0),(3,1),(4,0),(11,0),(12,0)]) 23 rfl (by kernel_rfl) (by kernel_rfl) fun K hK=>?_;simp only [go_sem,seval,List.map_cons,List.map_nil,Option.map_some,true_and,List.drop_succ_cons,List.drop_zero,List.take_zero,List.length_cons,List.length_nil,List.length_map,List.getElem?_map,implies_true,e6,e12,b1,zbi.C_eq,g4,j1,j2,Int.toNat_natCast];refine zaT (clone_sc (l:=y) s1 s2 _ _ _ (by simp only [go_sem,List.map_cons,List.map_nil,List.nil_append,List.append_nil])) rfl ?_;have s4:(v:Int)<(to.zbm.length:Int):=by omega
        have s5:v+1<=to.zbm.length:=by omega
        simp only [go_sem,seval,List.map_cons,List.map_nil,true_and,List.drop_succ_cons,List.drop_zero,List.take_succ_cons,List.take_zero,List.length_cons,List.length_nil,List.length_map,e10,hc,g1,s4,s5,Int.toNat_natCast,kT.a];apply hK;simp only [zaa];refine zan fun K hK=>?_;simp only [go_sem,seval,e12,hw3];apply hK;refine zbG ?_
        try simp only [zaS,zaK,↓reduceIte,zaa]
        refine zao fun K hK=>?_;simp only [go_sem,seval,e52];apply hK;refine ⟨l.length,Nat.lt_succ_self _,l,v+1,w,k+1,{ to with zbm:=to.zbm.set v (hs2.length:Int) },hs2++[y],AS++[5::20::i::42::q],LS++[y.length],rfl,hl2,by omega,by omega,by omega,hra,htf,fun r hr=>?_,?_⟩
        ·rw [List.length_append,List.length_singleton]
         rcases List.mem_or_eq_of_mem_set hr with hr | hr
         ·have:=hrk r hr;omega
         ·omega
        refine ⟨?_,?_,?_,?_,?_,?_,?_,?_,?_,?_,?_,?_,?_,?_,?_,?_,?_⟩
        all_goals try simp only [go_sem,seval,e3,e4,e6,e8,e10,e11,e50,e51,hw,b0,b1,b2,hc,gl1,bk,List.length_set,zas.C_eq,zbi.C_eq,zam,zcx,zgW,zfK]
        exact HOk.push kT q0 hrk y v
       ·rw [if_neg (by simpa using c1)] at hra;obtain ⟨y,hy,hra⟩:=bind_some hra;obtain ⟨s1,hra⟩:=zaM hra;obtain ⟨j0,j1,j2⟩:=zaw hy;rw [Int.toNat_natCast] at j2;refine zav ?_
        try simp only [zaa]
        repeat refine zah ?_
        refine zaO (tbl:=[0,1,3,7,0,0,32,0,224,480,1023,2047]) (ord:=[(0,0),(1,0),(2,0),(3,0),(4,0),(5,0),(6,0),(7,0),(8,0),(9,0),(10,0),(11,0)]) 22 rfl (by kernel_rfl) (by kernel_rfl) fun K hK=>?_;simp only [go_sem,seval,List.map_cons,List.map_nil,Option.map_some,true_and,List.drop_succ_cons,List.drop_zero,List.take_zero,List.length_cons,List.length_nil,List.length_map,List.getElem?_map,implies_true,e6,e10,e11,b1,zbi.C_eq,hc,g1,g3,j1,j2,Int.toNat_natCast,kT.w];refine ⟨by omega,by omega,?_⟩;apply hK;simp only [zaa]
        repeat refine zah ?_
        refine zca fun K hK=>?_;simp only [go_sem,seval,e11,hw2];apply hK;simp only [zaa,zaq];refine zao fun K hK=>?_;simp only [go_sem,seval,e52];apply hK;refine ⟨l.length,Nat.lt_succ_self _,l,v+1,w+1,k,{ to with za2:=to.za2.set v y },hs2,AS,LS,rfl,hl2,by omega,by omega,by omega,hra,htf,hrk,?_⟩;refine ⟨?_,?_,?_,?_,?_,?_,?_,?_,?_,?_,?_,?_,?_,?_,?_,?_,?_⟩
        all_goals try simp only [go_sem,seval,e3,e4,e6,e8,e10,e12,e50,e51,hw,b0,b1,b2,hc,gl1,bk,List.length_set,zas.C_eq,zbi.C_eq,zam,zcx,zgW,zfK,HOk.setW kT]
        exact kT.up rfl
end Go.Proofs.YtldnmmnnohnpkaaGreatDoor.Abs
