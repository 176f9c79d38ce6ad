import Derived.Test.YtljbbjpbefjpiaaGreatDoorPH5
import Derived.Test.YtljbbjpbefjpiaaGreatDoorPFacts
namespace Go.Proofs.YtljbbjpbefjpiaaGreatDoor.Abs
open Go.RowKit Tryz
open IntKind (i64 u32 u64 u8)
set_option linter.all false
set_option maxRecDepth 10000
theorem wL {v:Nat} (h:v+1<=1073741824):i64.wrap ((v:Int)+1)=((v+1:Nat):Int):=by
 have:i64.wrap ((v:Int)+1)=(v:Int)+1:=by unfold IntKind.wrap;simp [IntKind.bits,IntKind.signed];omega
 rw [this];rfl
theorem Av.other {F fp S C:V} {fs:List (V × V)} {cs:List V} {h h':Hp} {x:aD} {sid:Pa} (hk:Av F fp S C fs cs h x) (hs:∀a b,sid ∉ mM (oW F S C fs cs a b)) (hh:∀id,id ≠ sid->h' id=h id):Av F fp S C fs cs h' x:=by
 have hfr:∀ {a b},∀id ∈ mM (oW F S C fs cs a b),h' id=h id:=λ{a b} id hi=>hh id (λe=>hs a b (e ▸ hi));exact ⟨hk.fl,hk.rF.frame (hfr (a:=0) (b:=0)),hk.frV λi=>hfr,hk.rS.frame (hfr (a:=1) (b:=0)),hk.cl,hk.rC.frame (hfr (a:=2) (b:=0)),hk.frC λi=>hfr,hk.rfp,hk.nd⟩
def FG (f:aD->Int->Int->List Int->Option (Bool × List Int)):Prop:=
 ∀(c:aD) (fr to:Int) (seen:List Int) (r:Bool × List Int),f c fr to seen=some r->∀(q:Pa) (m:M) (P0:Pa) (F fp S C:V) (fs:List (V × V)) (cs:List V) (ew:aF) (sid:Pa) (n:Nat),
  m.blk P0=some (pN F fp S C c ew)->Av F fp S C fs cs m.hp c->(∀a b,sid ∉ mM (oW F S C fs cs a b))->seen.length=n->fQ m.hp (.vec sid 1 n) 1 (seen.map (cI .i64)) ->
  SC prog 14 [.ptr P0 0,.lit (.int .i64 fr),.lit (.int .i64 to),.vec sid 1 n] q m (λv m'=>∃h,v=.lit (.bool r.1)/\m'=m.seth h/\Av F fp S C fs cs h c/\fQ h (.vec sid 1 n) 1 (r.2.map (cI .i64))/\r.2.length=n)
theorem JB {rec_} (hrec:FG rec_):FG (λc fr to seen=>(bY c.bP fr).bind λl=>iU (l.length<=1073741824) <| rK (λk s=>rec_ c k to s) to l seen):=by
 intro c fr to seen r h q m P0 F fp S C fs cs ew sid n w0 hk hsep hsn hsv;refine SC.apart w0 λu0=>?_;simp only [go_sem,seval] at w0;refine vC func14 call14 ntmps14 results14 ?_;simp only at h;obtain ⟨l,hl,h⟩:=aH h;obtain ⟨f1,f2,f3⟩:=cO hl;obtain ⟨hlm,h⟩:=dK h
 obtain ⟨cv,hcv⟩:∃v,cs[fr.toNat]? = some v:=by
  have:=(uD.1 f3).1;rw [←hk.cl] at this;exact ⟨_,yP this⟩
 have hcR:fQ m.hp cv 1 (l.map (cI .i64)):=hk.rCi fr.toNat l cv f3 hcv;have hcS:=hcR.shC;have hsc:sid ∉ mM cv:=λhi=>hsep 4 fr.toNat (by show sid ∈ mM (match cs[fr.toNat]? with | some v=>v | none=>.nilv);rw [hcv];exact hi);obtain ⟨HC,rs,e1,e2,e3,e4⟩:=hk.rC.fA (i:=fr.toNat) (r:=[cv]) (by rw [jJ,hcv];rfl);have s1:HC.drop fr.toNat=cv::rs:=by have:=e3 0 (by omega);rwa [Ql] at this
 have hCS:jG C 1 c.bP.length:=by
  have:=hk.rC.sh
  rwa [jI,hk.cl] at this
 have hix:∀ {K:V->Prop},rJ prog (.sl 53) C (.lit (.int .i64 fr)) K=K (.pp (pQ C) (fr.toNat*1)):=jG.ix (P:=prog) (k:=.i64) hCS uI f1 f2;refine aN (aR λ_ z=>?_);simp only [go_sem,seval,bZ u0,w0];apply z;simp only [seval,aE,aW,aT,aC,aU,aP];refine aN (aN (aR λ_ z=>?_));simp only [go_sem,seval,bZ u0,w0,hCS.ld,hix,e1,s1,hcS.slen];apply z;simp only [seval,aE,aW,aT,aC,aU,aP];refine gN ?_
 refine yE (λk E' m'=>∃(v:Nat) (bO sn:List Int),k=bO.length/\l.drop v=bO/\v+bO.length=l.length/\rK (λk s=>rec_ c k to s) to bO sn=some r/\E' 0=.ptr P0 0/\E' 2=.lit (.int .i64 to)/\E' 3=.vec sid 1 n/\E' 17=cv/\E' 18=.lit (.int .i64 (l.length:Int))/\E' 19=.lit (.int .i64 (v:Int)) ∧
  m'.blk P0=some [F,fp,S,C,.lit (.int .i64 c.fA),.lit (.int .i64 ew.e_),.lit (.int .i64 ew.yW)]/\Av F fp S C fs cs m'.hp c/\fQ m'.hp (.vec sid 1 n) 1 (sn.map (cI .i64))/\sn.length=n/\fQ m'.hp cv 1 (l.map (cI .i64))/\m.back q m'=m.seth m'.hp) l.length ⟨0,l,seen,rfl,rfl,by simp,h,?_⟩ ?_
 ·refine ⟨?_,?_,?_,?_,?_,?_,?_,hk,hsv,hsn,hcR,?_⟩ <;> simp only [go_sem,seval,w0,bC]
  rfl
 rintro i1 k0 E2 m3 ⟨v,bO,sn,rfl,hdr,hvl,hy,g0,g2,g3,g17,g18,g19,gb,gk,gs,gn,gc,gm⟩ _;refine aN (aR λ_ z=>?_);simp only [go_sem,seval,bZ u0,g19,g18];apply z;simp only [seval,aE,aW,aT,aC,aU,aP];refine aN ?_;cases bO with
 | nil=>
   have hv0:decide ((v:Int)<(l.length:Int))=false:=by simp at hvl;simp;omega
   refine vV false (by simp only [go_sem,seval,hv0]) ?_;simp only [↓reduceIte,BN];refine oK ?_
   try simp only [seval,aW,aU,aE,aW,aT,aC,aU,aP]
   obtain rfl:=bX hy;refine aN (aR λ_ z=>?_);simp only [go_sem,seval];apply z;simp only [seval,aE,aW,aT,aC,aU,aP];refine gB ?_
   try simp only [aT,aP]
   refine ⟨by simp,?_⟩;simp only [go_sem,seval];exact ⟨_,gm,gk,gs,gn⟩
 | cons k bO=>
   have hv1:decide ((v:Int)<(l.length:Int))=true:=by simp at hvl;simp;omega
   have hlk:l[v]? = some k:=by
    have:=congrArg List.head? hdr;simpa [xel] using this
   have hdr2:l.drop (v+1)=bO:=by
    have:=congrArg List.tail hdr;simpa using this
   have hvb:(v:Int)<(l.length:Int):=by simpa using hv1
   refine vV true (by simp only [go_sem,seval,hv1]) ?_;simp only [↓reduceIte,BN];refine fO ?_
   try simp only [seval,aE,aW,aT,aC,aU,aP]
   refine aN (gN (aN ?_));obtain ⟨HK,rk,q1,q2⟩:=fQ.readI' gc hlk;have hcS2:=gc.shC;have hix2:∀ {K:V->Prop},rJ prog (.sl 3) cv (.lit (.int .i64 (v:Int))) K=K (.pp (pQ cv) (((v:Int)).toNat*1)):=jG.ix (P:=prog) (k:=.i64) hcS2 EI (by omega) hvb;refine aR λ_ z=>?_;simp only [go_sem,seval,bZ u0,g17,g19,hix2,q1,q2];apply z;simp only [seval,aE,aW,aT,aC,aU,aP];refine aN (aN (aR λ_ z=>?_));simp only [go_sem,seval,bZ u0,g2];apply z;simp only [seval,aE,aW,aT,aC,aU,aP];simp only [rK] at hy;refine lL hy (λc1 hy=>?_) (λc1 hy=>?_)
   ·obtain rfl:=bX hy;refine aN (aR λ_ z=>?_);simp only [go_sem,seval];apply z;simp only [seval,aE,aW,aT,aC,aU,aP];refine gB ?_
    try simp only [aT,aP]
    refine ⟨by simp,?_⟩;simp only [go_sem,seval];exact ⟨_,gm,gk,gs,gn⟩
   ·refine fO ?_
    try simp only [seval,aE,aW,aT,aC,aU,aP]
    obtain ⟨s,hs,hy⟩:=aH hy;obtain ⟨f4,f5,f6⟩:=cO hs;obtain ⟨HV,rv,q3,q4⟩:=fQ.readI' gs f6;have q3':m3.hp sid=some HV:=q3;have hkn:k<(n:Int):=by omega
    have hix3:∀ {K:V->Prop},rJ prog (.sl 3) (.vec sid 1 n) (.lit (.int .i64 k)) K=K (.pp (pQ (.vec sid 1 n)) (k.toNat*1)):=jG.ix (P:=prog) (k:=.i64) (.inr ⟨sid,rfl⟩) EI f4 hkn
    have hlen:(k.toNat+1<=HV.length)=True:=eq_true (by
     have:=congrArg List.length q4;simp only [Gw,gK] at this;omega)
    have hset:=gs.setRow (h':=tJ m3.hp sid (HV.set k.toNat (.lit (.int .i64 (i64.wrap (s+1)))))) (k:=0) (u:=.lit (.int .i64 (i64.wrap (s+1)))) (i:=k.toNat) (r:=cI .i64 s) (vs:=HV) (by rw [jJ,f6];rfl) (by omega) q3' (by show (if sid=sid then _ else _)=_;rw [if_pos rfl,Ql];rfl)
    have gs2:fQ (tJ m3.hp sid (HV.set k.toNat (.lit (.int .i64 (i64.wrap (s+1)))))) (.vec sid 1 n) 1 ((sn.set k.toNat (i64.wrap (s+1))).map (cI .i64)):=by
     rw [List.map_set];exact hset
    have hne:∀id,id ≠ sid->tJ m3.hp sid (HV.set k.toNat (.lit (.int .i64 (i64.wrap (s+1))))) id=m3.hp id:=λid h=>by show (if id=sid then _ else _)=_;rw [if_neg h]
    have gk2:=gk.other hsep hne;have gc2:=gc.frame (h':=tJ m3.hp sid (HV.set k.toNat (.lit (.int .i64 (i64.wrap (s+1)))))) λid hi=>hne id (λe=>hsc (e ▸ hi))
    have f6':(sn.set k.toNat (i64.wrap (s+1)))[k.toNat]? = some (i64.wrap (s+1)):=by
     rw [Qc];exact (uD.1 f6).1
    obtain ⟨HV2,rv2,q5,q6⟩:=fQ.readI' gs2 f6';have q5':tJ m3.hp sid (HV.set k.toNat (.lit (.int .i64 (i64.wrap (s+1))))) sid=some HV2:=q5;have gn2:(sn.set k.toNat (i64.wrap (s+1))).length=n:=by rw [vX];exact gn
    have vids1:pQ (.vec sid 1 n)=sid:=rfl;refine aN (aR λ_ z=>?_);simp only [go_sem,seval,bZ u0,g3,hix3,vids1,q3',q4,hlen,aK];apply z;simp only [seval,aE,aW,aT,aC,aU,aP];refine aN ?_
    rcases xS hy with ⟨c2,hy⟩ | ⟨c2,hy⟩
    ·obtain ⟨r1,hr1,hy⟩:=aH hy;refine aR λ_ z=>?_;simp only [go_sem,seval,bZ u0,g0,g2,g3,hix3,vids1,q5',q6,c2];refine SC.mono (hrec c k to _ r1 hr1 _ _ P0 F fp S C fs cs ew sid n (by simp only [go_sem,seval,gb]) gk2 hsep gn2 gs2) ?_;rintro _ _ ⟨h4,rfl,rfl,gk3,gs3,gn3⟩;simp only [go_sem,seval];apply z;simp only [seval,aE,aW,aT,aC,aU,aP];have gc3:fQ h4 cv 1 (l.map (cI .i64)):=gk3.rCi fr.toNat l cv f3 hcv;refine lL hy (λc3 hy=>?_) (λc3 hy=>?_)
     ·obtain rfl:=bX hy;refine aN (aR λ_ z=>?_);simp only [go_sem,seval];apply z;simp only [seval,aE,aW,aT,aC,aU,aP];refine gB ?_
      try simp only [aT,aP]
      refine ⟨by simp,?_⟩;simp only [go_sem,seval];refine ⟨h4,?_,gk3,gs3,gn3⟩;rw [FT,gm];rfl
     ·refine fO ?_
      try simp only [seval,aE,aW,aT,aC,aU,aP]
      refine aR λ_ z=>?_;simp only [go_sem,seval,g19];apply z;simp only [seval,aE,aW,aT,aC,aU,aP];refine ⟨bO.length,by simp,v+1,bO,r1.2,rfl,hdr2,by simp at hvl;omega,hy,?_⟩;refine ⟨?_,?_,?_,?_,?_,?_,?_,gk3,gs3,gn3,gc3,?_⟩ <;> simp only [go_sem,seval,g0,g2,g3,g17,g18,gb]
      ·rw [wL (by simp at hvl;omega)]
      ·rw [FT,gm];rfl
    ·refine aR λ_ z=>?_;simp only [go_sem,seval,bZ u0,g0,g2,g3,hix3,vids1,q5',q6,c2];apply z;simp only [seval,aE,aW,aT,aC,aU,aP];refine vV false (by simp only [go_sem,seval]) ?_;simp only [↓reduceIte,BN];refine fO ?_
     try simp only [seval,aE,aW,aT,aC,aU,aP]
     refine aR λ_ z=>?_;simp only [go_sem,seval,g19];apply z;simp only [seval,aE,aW,aT,aC,aU,aP];refine ⟨bO.length,by simp,v+1,bO,_,rfl,hdr2,by simp at hvl;omega,hy,?_⟩;refine ⟨?_,?_,?_,?_,?_,?_,?_,gk2,gs2,gn2,gc2,?_⟩ <;> simp only [go_sem,seval,g0,g2,g3,g17,g18,gb]
     ·rw [wL (by simp at hvl;omega)]
     ·rw [FT,gm];rfl
theorem Hr:∀n,FG (fL n)
 | 0=>λ_ _ _ _ _ h=>nomatch h
 | n+1=>JB (Hr n)
