import Derived.Test.YtknbgnpeiohifaaGreatDoorGPx
import Derived.Test.YtknbgnpeiohifaaGreatDoorGFacts
namespace Go.Proofs.YtknbgnpeiohifaaGreatDoor.Abs
open Go.RowKit Tryz
open IntKind (i64 u32 u64 u8)
set_option linter.all false
set_option maxRecDepth 10000
theorem BL {v:Nat} (h:v+1<=1073741824):i64.wrap ((v:Int)+1)=((v+1:Nat):Int):=by
 have:i64.wrap ((v:Int)+1)=(v:Int)+1:=by unfold IntKind.wrap;simp [IntKind.bits,IntKind.signed];omega
 rw [this];rfl
theorem Ft.other {F fp S C:V} {fs:List (V × V)} {cs:List V} {h h':Hp} {x:aE} {sid:Pa} (hk:Ft F fp S C fs cs h x) (hs:∀a b,sid ∉ mK (rO F S C fs cs a b)) (hh:∀id,id ≠ sid->h' id=h id):Ft F fp S C fs cs h' x:=by
 have hfr:∀ {a b},∀id ∈ mK (rO F S C fs cs a b),h' id=h id:=λ{a b} id hi=>hh id (λe=>hs a b (e ▸ hi));exact ⟨hk.fl,hk.rF.frame (hfr (a:=0) (b:=0)),hk.frV λi=>hfr,hk.rS.frame (hfr (a:=1) (b:=0)),hk.cl,hk.rC.frame (hfr (a:=2) (b:=0)),hk.frC λi=>hfr,hk.rfp,hk.nd⟩
def Mw (f:aE->Int->Int->List Int->Option (Bool × List Int)):Prop:=
 ∀(c:aE) (fr to:Int) (seen:List Int) (r:Bool × List Int),f c fr to seen=some r->∀(q:Pa) (m:M) (P0:Pa) (F fp S C:V) (fs:List (V × V)) (cs:List V) (ew:aG) (sid:Pa) (n:Nat),
  m.blk P0=some (sZ F fp S C c ew)->Ft F fp S C fs cs m.hp c->(∀a b,sid ∉ mK (rO F S C fs cs a b))->seen.length=n->iP m.hp (.vec sid 1 n) 1 (seen.map (cI .i64)) ->
  SC prog 35 [.ptr P0 0,.lit (.int .i64 fr),.lit (.int .i64 to),.vec sid 1 n] q m (λv m'=>∃h,v=.lit (.bool r.1)/\m'=m.seth h/\Ft F fp S C fs cs h c/\iP h (.vec sid 1 n) 1 (r.2.map (cI .i64))/\r.2.length=n)
theorem RC {rec_} (hrec:Mw rec_):Mw (λc fr to seen=>(aZ c.cF fr).bind λl=>iN (l.length<=1073741824) <| Am (λk s=>rec_ c k to s) to l seen):=by
 intro c fr to seen r h q m P0 F fp S C fs cs ew sid n w0 hk hsep hsn hsv;refine SC.apart w0 λu0=>?_;simp only [go_sem] at w0;refine wG func35 call35 ntmps35 results35 ?_;simp only at h;obtain ⟨l,hl,h⟩:=aH h;obtain ⟨f1,f2,f3⟩:=bX hl;obtain ⟨hlm,h⟩:=cQ h
 obtain ⟨cv,hcv⟩:∃v,cs[fr.toNat]? = some v:=by
  have:=(xW.1 f3).1;rw [←hk.cl] at this;exact ⟨_,yN this⟩
 have hcR:iP m.hp cv 1 (l.map (cI .i64)):=hk.rCi fr.toNat l cv f3 hcv;have hcS:=hcR.shC;have hsc:sid ∉ mK cv:=λhi=>hsep 4 fr.toNat (by show sid ∈ mK (match cs[fr.toNat]? with | some v=>v | none=>.nilv);rw [hcv];exact hi);obtain ⟨HC,rs,e1,e2,e3,e4⟩:=hk.rC.fW (i:=fr.toNat) (r:=[cv]) (by rw [KM,hcv];rfl);have s1:HC.drop fr.toNat=cv::rs:=by have:=e3 0 zb;rwa [YJ] at this
 have hCS:xO C 1 c.cF.length:=by
  have:=hk.rC.sh
  rwa [Kn,hk.cl] at this
 have hix:∀ {K:V->Prop},uC prog (.sl 65) C (.lit (.int .i64 fr)) K=K (.pp (tL C) (fr.toNat*1)):=xO.ix (P:=prog) (k:=.i64) hCS sz65 f1 f2;refine bW ?_;refine aR (EL ?_);simp only [go_sem,seval,Sr,DH,w0,hCS.ld,hix,e1,s1,hcS.slen];refine dY ?_
 refine zR (λk E' m'=>∃(v:Nat) (rest sn:List Int),k=rest.length/\l.drop v=rest/\v+rest.length=l.length/\Am (λk s=>rec_ c k to s) to rest sn=some r/\E' 0=.ptr P0 0/\E' 2=.lit (.int .i64 to)/\E' 3=.vec sid 1 n/\E' 17=cv/\E' 18=.lit (.int .i64 (l.length:Int))/\E' 19=.lit (.int .i64 (v:Int)) ∧
  m'.blk P0=some [F,fp,S,C,.lit (.int .i64 c.fW),.lit (.int .i64 ew.e_),.lit (.int .i64 ew.FL)]/\Ft F fp S C fs cs m'.hp c/\iP m'.hp (.vec sid 1 n) 1 (sn.map (cI .i64))/\sn.length=n/\iP m'.hp cv 1 (l.map (cI .i64))/\m.back q m'=m.seth m'.hp) l.length ⟨0,l,seen,rfl,rfl,zd,h,?_⟩ ?_
 ·refine ⟨?_,?_,?_,?_,?_,?_,?_,hk,hsv,hsn,hcR,?_⟩ <;> simp only [go_sem,seval,w0,cN]
  rfl
 rintro i1 k0 E2 m3 ⟨v,rest,sn,rfl,hdr,hvl,hy,g0,g2,g3,g17,g18,g19,gb,gk,gs,gn,gc,gm⟩ _;refine bW ?_;refine aR ?_;cases rest with
 | nil=>
   have hv0:decide ((v:Int)<(l.length:Int))=false:=by simp at hvl;simp;omega
   refine Br false (by simp only [go_sem,↓reduceIte,hv0]) ?_;simp only [↓reduceIte,JR];refine lM ?_
   try simp only [seval,eH,dN,aV,eH,dN]
   obtain rfl:=bS hy;refine bW ?_;refine dI ?_;refine ⟨zd,?_⟩;simp only [go_sem,↓reduceIte,true_and];exact ⟨_,gm,gk,gs,gn⟩
 | cons k rest=>
   have hv1:decide ((v:Int)<(l.length:Int))=true:=by simp at hvl;simp;omega
   have hlk:l[v]? = some k:=by
    have:=DI List.head? hdr;simpa [xdx] using this
   have hdr2:l.drop (v+1)=rest:=by
    have:=DI List.tail hdr;simpa using this
   have hvb:(v:Int)<(l.length:Int):=by simpa using hv1
   refine Br true (by simp only [go_sem,↓reduceIte,hv1]) ?_;simp only [↓reduceIte];refine dA ?_
   refine aR (dY (aR ?_));obtain ⟨HK,rk,q1,q2⟩:=iP.readI' gc hlk;have hcS2:=gc.shC;have hix2:∀ {K:V->Prop},uC prog (.sl 3) cv (.lit (.int .i64 (v:Int))) K=K (.pp (tL cv) (((v:Int)).toNat*1)):=xO.ix (P:=prog) (k:=.i64) hcS2 Xc zb hvb;refine dL λ_ z=>?_;simp only [go_sem,seval,g17,g19,hix2,q1,q2];apply z;refine aR (bW ?_);simp only [Am] at hy;refine gD hy (λc1 hy=>?_) (λc1 hy=>?_)
   ·obtain rfl:=bS hy;refine bW ?_;refine dI ?_
    try simp only [eN,nE]
    refine ⟨zd,?_⟩;simp only [go_sem,↓reduceIte,true_and];exact ⟨_,gm,gk,gs,gn⟩
   ·refine dA ?_
    try simp only [aV]
    obtain ⟨s,hs,hy⟩:=aH hy;obtain ⟨f4,f5,f6⟩:=bX hs;obtain ⟨HV,rv,q3,q4⟩:=iP.readI' gs f6;have q3':m3.hp sid=some HV:=q3;have hkn:k<(n:Int):=zb
    have hix3:∀ {K:V->Prop},uC prog (.sl 3) (.vec sid 1 n) (.lit (.int .i64 k)) K=K (.pp (tL (.vec sid 1 n)) (k.toNat*1)):=xO.ix (P:=prog) (k:=.i64) (.inr ⟨sid,rfl⟩) Xc f4 hkn
    have hlen:(k.toNat+1<=HV.length)=True:=eq_true (by
     have:=DI List.length q4;simp only [Us,qB] at this;omega)
    have hset:=gs.setRow (h':=qL m3.hp sid (HV.set k.toNat (.lit (.int .i64 (i64.wrap (s+1)))))) (k:=0) (u:=.lit (.int .i64 (i64.wrap (s+1)))) (i:=k.toNat) (r:=cI .i64 s) (vs:=HV) (by rw [KM,f6];rfl) zb q3' (by show (if sid=sid then _ else _)=_;rw [cX rfl,YJ];rfl)
    have gs2:iP (qL m3.hp sid (HV.set k.toNat (.lit (.int .i64 (i64.wrap (s+1)))))) (.vec sid 1 n) 1 ((sn.set k.toNat (i64.wrap (s+1))).map (cI .i64)):=by
     rw [List.map_set];exact hset
    have hne:∀id,id ≠ sid->qL m3.hp sid (HV.set k.toNat (.lit (.int .i64 (i64.wrap (s+1))))) id=m3.hp id:=λid h=>by show (if id=sid then _ else _)=_;rw [cE h]
    have gk2:=gk.other hsep hne;have gc2:=gc.frame (h':=qL m3.hp sid (HV.set k.toNat (.lit (.int .i64 (i64.wrap (s+1)))))) λid hi=>hne id (λe=>hsc (e ▸ hi))
    have f6':(sn.set k.toNat (i64.wrap (s+1)))[k.toNat]? = some (i64.wrap (s+1)):=by
     rw [VI];exact (xW.1 f6).1
    obtain ⟨HV2,rv2,q5,q6⟩:=iP.readI' gs2 f6';have q5':qL m3.hp sid (HV.set k.toNat (.lit (.int .i64 (i64.wrap (s+1))))) sid=some HV2:=q5;have gn2:(sn.set k.toNat (i64.wrap (s+1))).length=n:=by rw [Db];exact gn
    have vids1:tL (.vec sid 1 n)=sid:=rfl;refine EL ?_;simp only [go_sem,seval,yV,Dh,true_and,qB,sY,g3,hix3,vids1,q3',q4,hlen,jP];refine aR ?_
    rcases AZ hy with ⟨c2,hy⟩ | ⟨c2,hy⟩
    ·obtain ⟨r1,hr1,hy⟩:=aH hy;refine dL λ_ z=>?_;simp only [go_sem,seval,yV,Dh,AE,Fu,g0,g2,g3,hix3,vids1,q5',q6,c2];refine SC.mono (hrec c k to _ r1 hr1 _ _ P0 F fp S C fs cs ew sid n (by simp only [go_sem,gb]) gk2 hsep gn2 gs2) ?_;rintro _ _ ⟨h4,rfl,rfl,gk3,gs3,gn3⟩;simp only [go_sem,seval];apply z;have gc3:iP h4 cv 1 (l.map (cI .i64)):=gk3.rCi fr.toNat l cv f3 hcv;refine gD hy (λc3 hy=>?_) (λc3 hy=>?_)
     ·obtain rfl:=bS hy;refine bW ?_;refine dI ?_
      try simp only [eN,nE]
      refine ⟨zd,?_⟩;simp only [go_sem,↓reduceIte,true_and];refine ⟨h4,?_,gk3,gs3,gn3⟩;rw [DS,gm];rfl
     ·refine dA ?_
      try simp only [aV,cR]
      refine oB ?_;refine ⟨rest.length,zd,v+1,rest,r1.2,rfl,hdr2,by simp at hvl;omega,hy,?_⟩;refine ⟨?_,?_,?_,?_,?_,?_,?_,gk3,gs3,gn3,gc3,?_⟩ <;> simp only [go_sem,seval,g0,g2,g3,g17,g18,gb]
      ·rw [BL (by simp at hvl;omega)]
      ·rw [DS,gm];rfl
    ·refine dL λ_ z=>?_;simp only [go_sem,seval,g3,hix3,vids1,q5',q6,c2];apply z;refine Br false (by simp only [go_sem,↓reduceIte]) ?_;simp only [↓reduceIte,JR];refine dA ?_
     try simp only [aV,cR]
     refine oB ?_;refine ⟨rest.length,zd,v+1,rest,_,rfl,hdr2,by simp at hvl;omega,hy,?_⟩;refine ⟨?_,?_,?_,?_,?_,?_,?_,gk2,gs2,gn2,gc2,?_⟩ <;> simp only [go_sem,seval,g0,g2,g3,g17,g18,gb]
     ·rw [BL (by simp at hvl;omega)]
     ·rw [DS,gm];rfl
theorem Ox:∀n,Mw (lP n)
 | 0=>λ_ _ _ _ _ h=>nomatch h
 | n+1=>RC (Ox n)
