import Derived.Test.YtnheknbibdgglaaGreatDoorMPx
import Derived.Test.YtnheknbibdgglaaGreatDoorMFacts
namespace Go.Proofs.YtnheknbibdgglaaGreatDoor.Abs
open Go.RowKit Tryz
open IntKind (i64 u32 u64 u8)
set_option linter.all false
set_option maxRecDepth 10000
theorem yC {v:Nat} (h:v+1<=1073741824):i64.wrap ((v:Int)+1)=((v+1:Nat):Int):=by
 have:i64.wrap ((v:Int)+1)=(v:Int)+1:=by unfold IntKind.wrap;simp [IntKind.bits,IntKind.signed];omega
 rw [this];rfl
theorem BU.other {F fp S C:V} {fs:List (V × V)} {cs:List V} {h h':Hp} {x:aG} {sid:Pa} (hk:BU F fp S C fs cs h x) (hs:∀a b,sid ∉ lF (pE F S C fs cs a b)) (hh:∀id,id ≠ sid->h' id=h id):BU F fp S C fs cs h' x:=by
 have hfr:∀ {a b},∀id ∈ lF (pE F S C fs cs a b),h' id=h id:=λ{a b} id hi=>hh id (λe=>hs a b (e ▸ hi));exact ⟨hk.fl,hk.rF.frame (hfr (a:=0) (b:=0)),hk.frV λi=>hfr,hk.rS.frame (hfr (a:=1) (b:=0)),hk.cl,hk.rC.frame (hfr (a:=2) (b:=0)),hk.frC λi=>hfr,hk.rfp,hk.nd⟩
def HT (f:aG->Int->Int->List Int->Option (Bool × List Int)):Prop:=
 ∀(c:aG) (fr to:Int) (seen:List Int) (r:Bool × List Int),f c fr to seen=some r->∀(q:Pa) (m:M) (P0:Pa) (F fp S C:V) (fs:List (V × V)) (cs:List V) (ew:aH) (sid:Pa) (n:Nat),
  m.blk P0=some (pZ F fp S C c ew)->BU F fp S C fs cs m.hp c->(∀a b,sid ∉ lF (pE F S C fs cs a b))->seen.length=n->iF m.hp (.vec sid 1 n) 1 (seen.map (cI .i64)) ->
  SC prog 30 [.ptr P0 0,.lit (.int .i64 fr),.lit (.int .i64 to),.vec sid 1 n] q m (λv m'=>∃h,v=.lit (.bool r.1)/\m'=m.seth h/\BU F fp S C fs cs h c/\iF h (.vec sid 1 n) 1 (r.2.map (cI .i64))/\r.2.length=n)
theorem Mc {rec_} (hrec:HT rec_):HT (λc fr to seen=>(aS c.cJ fr).bind λl=>iE (l.length<=1073741824) <| vZ (λk s=>rec_ c k to s) to l seen):=by
 intro c fr to seen r h q m P0 F fp S C fs cs ew sid n w0 hk hsep hsn hsv;refine SC.apart w0 λu0=>?_;simp only [go_sem] at w0;refine oE func30 call30 ntmps30 results30 ?_;simp only at h;obtain ⟨l,hl,h⟩:=aD h;obtain ⟨f1,f2,f3⟩:=aY hl;obtain ⟨hlm,h⟩:=bN h
 obtain ⟨cv,hcv⟩:∃v,cs[fr.toNat]? = some v:=by
  have:=(sG.1 f3).1;rw [←hk.cl] at this;exact ⟨_,tS this⟩
 have hcR:iF m.hp cv 1 (l.map (cI .i64)):=hk.rCi fr.toNat l cv f3 hcv;have hcS:=hcR.shC;have hsc:sid ∉ lF cv:=λhi=>hsep 4 fr.toNat (by show sid ∈ lF (match cs[fr.toNat]? with | some v=>v | none=>.nilv);rw [hcv];exact hi);obtain ⟨HC,rs,e1,e2,e3,e4⟩:=hk.rC.fU (i:=fr.toNat) (r:=[cv]) (by rw [AJ,hcv];rfl);have s1:HC.drop fr.toNat=cv::rs:=by have:=e3 0 za;rwa [SQ] at this
 have hCS:tV C 1 c.cJ.length:=by
  have:=hk.rC.sh
  rwa [wM,hk.cl] at this
 have hix:∀ {K:V->Prop},sI prog (.sl 34) C (.lit (.int .i64 fr)) K=K (.pp (qI C) (fr.toNat*1)):=tV.ix (P:=prog) (k:=.i64) hCS sz34 f1 f2;refine bC ?_;refine aN (xN ?_);simp only [go_sem,seval,Bu,sR,w0,hCS.ld,hix,e1,s1,hcS.slen];refine cK ?_
 refine rG (λk E' m'=>∃(v:Nat) (rest sn:List Int),k=rest.length/\l.drop v=rest/\v+rest.length=l.length/\vZ (λk s=>rec_ c k to s) to rest sn=some r/\E' 0=.ptr P0 0/\E' 2=.lit (.int .i64 to)/\E' 3=.vec sid 1 n/\E' 17=cv/\E' 18=.lit (.int .i64 (l.length:Int))/\E' 19=.lit (.int .i64 (v:Int)) ∧
  m'.blk P0=some [F,fp,S,C,.lit (.int .i64 c.fU),.lit (.int .i64 ew.e_),.lit (.int .i64 ew.Cn)]/\BU F fp S C fs cs m'.hp c/\iF m'.hp (.vec sid 1 n) 1 (sn.map (cI .i64))/\sn.length=n/\iF m'.hp cv 1 (l.map (cI .i64))/\m.back q m'=m.seth m'.hp) l.length ⟨0,l,seen,rfl,rfl,zc,h,?_⟩ ?_
 ·refine ⟨?_,?_,?_,?_,?_,?_,?_,hk,hsv,hsn,hcR,?_⟩ <;> simp only [go_sem,seval,w0,bG]
  rfl
 rintro i1 k0 E2 m3 ⟨v,rest,sn,rfl,hdr,hvl,hy,g0,g2,g3,g17,g18,g19,gb,gk,gs,gn,gc,gm⟩ _;refine bC ?_;refine aN ?_;cases rest with
 | nil=>
   have hv0:decide ((v:Int)<(l.length:Int))=false:=by simp at hvl;simp;omega
   refine mA false (by simp only [go_sem,↓reduceIte,hv0]) ?_;simp only [↓reduceIte,Bt];refine gE ?_
   try simp only [seval,cV,cM,aR,cV,cM]
   obtain rfl:=aZ hy;refine bC ?_;refine cB ?_;refine ⟨zc,?_⟩;simp only [go_sem,↓reduceIte,true_and];exact ⟨_,gm,gk,gs,gn⟩
 | cons k rest=>
   have hv1:decide ((v:Int)<(l.length:Int))=true:=by simp at hvl;simp;omega
   have hlk:l[v]? = some k:=by
    have:=vJ List.head? hdr;simpa [Td] using this
   have hdr2:l.drop (v+1)=rest:=by
    have:=vJ List.tail hdr;simpa using this
   have hvb:(v:Int)<(l.length:Int):=by simpa using hv1
   refine mA true (by simp only [go_sem,↓reduceIte,hv1]) ?_;simp only [↓reduceIte];refine bL ?_
   refine aN (cK (aN ?_));obtain ⟨HK,rk,q1,q2⟩:=iF.readI' gc hlk;have hcS2:=gc.shC;have hix2:∀ {K:V->Prop},sI prog (.sl 3) cv (.lit (.int .i64 (v:Int))) K=K (.pp (qI cv) (((v:Int)).toNat*1)):=tV.ix (P:=prog) (k:=.i64) hcS2 Ty za hvb;refine bX λ_ z=>?_;simp only [go_sem,seval,g17,g19,hix2,q1,q2];apply z;refine aN (bC ?_);simp only [vZ] at hy;refine cY hy (λc1 hy=>?_) (λc1 hy=>?_)
   ·obtain rfl:=aZ hy;refine bC ?_;refine cB ?_
    try simp only [cE,gP]
    refine ⟨zc,?_⟩;simp only [go_sem,↓reduceIte,true_and];exact ⟨_,gm,gk,gs,gn⟩
   ·refine bL ?_
    try simp only [aR]
    obtain ⟨s,hs,hy⟩:=aD hy;obtain ⟨f4,f5,f6⟩:=aY hs;obtain ⟨HV,rv,q3,q4⟩:=iF.readI' gs f6;have q3':m3.hp sid=some HV:=q3;have hkn:k<(n:Int):=za
    have hix3:∀ {K:V->Prop},sI prog (.sl 3) (.vec sid 1 n) (.lit (.int .i64 k)) K=K (.pp (qI (.vec sid 1 n)) (k.toNat*1)):=tV.ix (P:=prog) (k:=.i64) (.inr ⟨sid,rfl⟩) Ty f4 hkn
    have hlen:(k.toNat+1<=HV.length)=True:=eq_true (by
     have:=vJ List.length q4;simp only [HG,jJ] at this;omega)
    have hset:=gs.setRow (h':=tH m3.hp sid (HV.set k.toNat (.lit (.int .i64 (i64.wrap (s+1)))))) (k:=0) (u:=.lit (.int .i64 (i64.wrap (s+1)))) (i:=k.toNat) (r:=cI .i64 s) (vs:=HV) (by rw [AJ,f6];rfl) za q3' (by show (if sid=sid then _ else _)=_;rw [cG rfl,SQ];rfl)
    have gs2:iF (tH m3.hp sid (HV.set k.toNat (.lit (.int .i64 (i64.wrap (s+1)))))) (.vec sid 1 n) 1 ((sn.set k.toNat (i64.wrap (s+1))).map (cI .i64)):=by
     rw [xdz];exact hset
    have hne:∀id,id ≠ sid->tH m3.hp sid (HV.set k.toNat (.lit (.int .i64 (i64.wrap (s+1))))) id=m3.hp id:=λid h=>by show (if id=sid then _ else _)=_;rw [bU h]
    have gk2:=gk.other hsep hne;have gc2:=gc.frame (h':=tH m3.hp sid (HV.set k.toNat (.lit (.int .i64 (i64.wrap (s+1)))))) λid hi=>hne id (λe=>hsc (e ▸ hi))
    have f6':(sn.set k.toNat (i64.wrap (s+1)))[k.toNat]? = some (i64.wrap (s+1)):=by
     rw [Ki];exact (sG.1 f6).1
    obtain ⟨HV2,rv2,q5,q6⟩:=iF.readI' gs2 f6';have q5':tH m3.hp sid (HV.set k.toNat (.lit (.int .i64 (i64.wrap (s+1))))) sid=some HV2:=q5;have gn2:(sn.set k.toNat (i64.wrap (s+1))).length=n:=by rw [yS];exact gn
    have vids1:qI (.vec sid 1 n)=sid:=rfl;refine xN ?_;simp only [go_sem,seval,oC,qA,true_and,jJ,mO,g3,hix3,vids1,q3',q4,hlen,gR];refine aN ?_
    rcases mL hy with ⟨c2,hy⟩ | ⟨c2,hy⟩
    ·obtain ⟨r1,hr1,hy⟩:=aD hy;refine bX λ_ z=>?_;simp only [go_sem,seval,oC,qA,wN,ER,g0,g2,g3,hix3,vids1,q5',q6,c2];refine SC.mono (hrec c k to _ r1 hr1 _ _ P0 F fp S C fs cs ew sid n (by simp only [go_sem,gb]) gk2 hsep gn2 gs2) ?_;rintro _ _ ⟨h4,rfl,rfl,gk3,gs3,gn3⟩;simp only [go_sem,seval];apply z;have gc3:iF h4 cv 1 (l.map (cI .i64)):=gk3.rCi fr.toNat l cv f3 hcv;refine cY hy (λc3 hy=>?_) (λc3 hy=>?_)
     ·obtain rfl:=aZ hy;refine bC ?_;refine cB ?_
      try simp only [cE,gP]
      refine ⟨zc,?_⟩;simp only [go_sem,↓reduceIte,true_and];refine ⟨h4,?_,gk3,gs3,gn3⟩;rw [jQ,gm];rfl
     ·refine bL ?_
      try simp only [aR,bJ]
      refine dY ?_;refine ⟨rest.length,zc,v+1,rest,r1.2,rfl,hdr2,by simp at hvl;omega,hy,?_⟩;refine ⟨?_,?_,?_,?_,?_,?_,?_,gk3,gs3,gn3,gc3,?_⟩ <;> simp only [go_sem,seval,g0,g2,g3,g17,g18,gb]
      ·rw [yC (by simp at hvl;omega)]
      ·rw [jQ,gm];rfl
    ·refine bX λ_ z=>?_;simp only [go_sem,seval,g3,hix3,vids1,q5',q6,c2];apply z;refine mA false (by simp only [go_sem,↓reduceIte]) ?_;simp only [↓reduceIte,Bt];refine bL ?_
     try simp only [aR,bJ]
     refine dY ?_;refine ⟨rest.length,zc,v+1,rest,_,rfl,hdr2,by simp at hvl;omega,hy,?_⟩;refine ⟨?_,?_,?_,?_,?_,?_,?_,gk2,gs2,gn2,gc2,?_⟩ <;> simp only [go_sem,seval,g0,g2,g3,g17,g18,gb]
     ·rw [yC (by simp at hvl;omega)]
     ·rw [jQ,gm];rfl
theorem Jq:∀n,HT (kQ n)
 | 0=>λ_ _ _ _ _ h=>nomatch h
 | n+1=>Mc (Jq n)
