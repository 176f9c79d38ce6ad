import Derived.Test.YtnheknbibdgglaaGreatDoorTPx
import Derived.Test.YtnheknbibdgglaaGreatDoorTFacts
namespace Go.Proofs.YtnheknbibdgglaaGreatDoor.Abs
open Go.RowKit Tryz
open IntKind (i64 u32 u64 u8)
set_option linter.all false
set_option maxRecDepth 10000
theorem zS {v:Nat} (h:v+1<=1073741824):i64.wrap ((v:Int)+1)=((v+1:Nat):Int):=by
 have:i64.wrap ((v:Int)+1)=(v:Int)+1:=by unfold IntKind.wrap;simp [IntKind.bits,IntKind.signed];omega
 rw [this];rfl
theorem Df.other {F fp S C:V} {fs:List (V × V)} {cs:List V} {h h':Hp} {x:aE} {sid:Pa} (hk:Df F fp S C fs cs h x) (hs:∀a b,sid ∉ lR (pZ F S C fs cs a b)) (hh:∀id,id ≠ sid->h' id=h id):Df F fp S C fs cs h' x:=by
 have hfr:∀ {a b},∀id ∈ lR (pZ F S C fs cs a b),h' id=h id:=λ{a b} id hi=>hh id (λe=>hs a b (e ▸ hi));exact ⟨hk.fl,hk.rF.frame (hfr (a:=0) (b:=0)),hk.frV λi=>hfr,hk.rS.frame (hfr (a:=1) (b:=0)),hk.cl,hk.rC.frame (hfr (a:=2) (b:=0)),hk.frC λi=>hfr,hk.rfp,hk.nd⟩
def IK (f:aE->Int->Int->List Int->Option (Bool × List Int)):Prop:=
 ∀(c:aE) (fr to:Int) (seen:List Int) (r:Bool × List Int),f c fr to seen=some r->∀(q:Pa) (m:M) (P0:Pa) (F fp S C:V) (fs:List (V × V)) (cs:List V) (ew:aG) (sid:Pa) (n:Nat),
  m.blk P0=some (qU F fp S C c ew)->Df F fp S C fs cs m.hp c->(∀a b,sid ∉ lR (pZ F S C fs cs a b))->seen.length=n->iC m.hp (.vec sid 1 n) 1 (seen.map (cI .i64)) ->
  SC prog 30 [.ptr P0 0,.lit (.int .i64 fr),.lit (.int .i64 to),.vec sid 1 n] q m (λv m'=>∃h,v=.lit (.bool r.1)/\m'=m.seth h/\Df F fp S C fs cs h c/\iC h (.vec sid 1 n) 1 (r.2.map (cI .i64))/\r.2.length=n)
theorem MY {rec_} (hrec:IK rec_):IK (λc fr to seen=>(aZ c.bX fr).bind λl=>fC (l.length<=1073741824) <| wW (λk s=>rec_ c k to s) to l seen):=by
 intro c fr to seen r h q m P0 F fp S C fs cs ew sid n w0 hk hsep hsn hsv;refine SC.apart w0 λu0=>?_;simp only [go_sem] at w0;refine sS func30 call30 ntmps30 results30 ?_;simp only at h;obtain ⟨l,hl,h⟩:=aF h;obtain ⟨f1,f2,f3⟩:=bI hl;obtain ⟨hlm,h⟩:=bY h
 obtain ⟨cv,hcv⟩:∃v,cs[fr.toNat]? = some v:=by
  have:=(vJ.1 f3).1;rw [←hk.cl] at this;exact ⟨_,wB this⟩
 have hcR:iC m.hp cv 1 (l.map (cI .i64)):=hk.rCi fr.toNat l cv f3 hcv;have hcS:=hcR.shC;have hsc:sid ∉ lR cv:=λhi=>hsep 4 fr.toNat (by show sid ∈ lR (match cs[fr.toNat]? with | some v=>v | none=>.nilv);rw [hcv];exact hi);obtain ⟨HC,rs,e1,e2,e3,e4⟩:=hk.rC.gC (i:=fr.toNat) (r:=[cv]) (by rw [HS,hcv];rfl);have s1:HC.drop fr.toNat=cv::rs:=by have:=e3 0 (by omega);rwa [PH] at this
 have hCS:uM C 1 c.bX.length:=by
  have:=hk.rC.sh
  rwa [Hh,hk.cl] at this
 have hix:∀ {K:V->Prop},rU prog (.sl 34) C (.lit (.int .i64 fr)) K=K (.pp (rA C) (fr.toNat*1)):=uM.ix (P:=prog) (k:=.i64) hCS sz34 f1 f2;refine bL ?_;refine aO (yV ?_);simp only [go_sem,seval,NR,Ct,w0,hCS.ld,hix,e1,s1,hcS.slen];refine cU ?_
 refine tQ (λk E' m'=>∃(v:Nat) (rest sn:List Int),k=rest.length/\l.drop v=rest/\v+rest.length=l.length/\wW (λk s=>rec_ c k to s) to rest sn=some r/\E' 0=.ptr P0 0/\E' 2=.lit (.int .i64 to)/\E' 3=.vec sid 1 n/\E' 17=cv/\E' 18=.lit (.int .i64 (l.length:Int))/\E' 19=.lit (.int .i64 (v:Int)) ∧
  m'.blk P0=some [F,fp,S,C,.lit (.int .i64 c.gC),.lit (.int .i64 ew.e_),.lit (.int .i64 ew.Dr)]/\Df F fp S C fs cs m'.hp c/\iC m'.hp (.vec sid 1 n) 1 (sn.map (cI .i64))/\sn.length=n/\iC m'.hp cv 1 (l.map (cI .i64))/\m.back q m'=m.seth m'.hp) l.length ⟨0,l,seen,rfl,rfl,by simp,h,?_⟩ ?_
 ·refine ⟨?_,?_,?_,?_,?_,?_,?_,hk,hsv,hsn,hcR,?_⟩ <;> simp only [go_sem,seval,w0,bV]
  rfl
 rintro i1 k0 E2 m3 ⟨v,rest,sn,rfl,hdr,hvl,hy,g0,g2,g3,g17,g18,g19,gb,gk,gs,gn,gc,gm⟩ _;refine bL ?_;refine aO ?_;cases rest with
 | nil=>
   have hv0:decide ((v:Int)<(l.length:Int))=false:=by simp at hvl;simp;omega
   refine yX false (by simp only [go_sem,↓reduceIte,hv0]) ?_;simp only [↓reduceIte,FZ];refine jJ ?_
   try simp only [seval,dB,cP,aK,dB,cP]
   obtain rfl:=aU hy;refine bL ?_;refine cD ?_;refine ⟨by simp,?_⟩;simp only [go_sem,↓reduceIte,true_and];exact ⟨_,gm,gk,gs,gn⟩
 | cons k rest=>
   have hv1:decide ((v:Int)<(l.length:Int))=true:=by simp at hvl;simp;omega
   have hlk:l[v]? = some k:=by
    have:=congrArg List.head? hdr;simpa [xdv] using this
   have hdr2:l.drop (v+1)=rest:=by
    have:=congrArg List.tail hdr;simpa using this
   have hvb:(v:Int)<(l.length:Int):=by simpa using hv1
   refine yX true (by simp only [go_sem,↓reduceIte,hv1]) ?_;simp only [↓reduceIte];refine bP ?_
   refine aO (cU (aO ?_));obtain ⟨HK,rk,q1,q2⟩:=iC.readI' gc hlk;have hcS2:=gc.shC;have hix2:∀ {K:V->Prop},rU prog (.sl 3) cv (.lit (.int .i64 (v:Int))) K=K (.pp (rA cv) (((v:Int)).toNat*1)):=uM.ix (P:=prog) (k:=.i64) hcS2 UG (by omega) hvb;refine dD λ_ z=>?_;simp only [go_sem,seval,g17,g19,hix2,q1,q2];apply z;refine aO (bL ?_);simp only [wW] at hy;refine dI hy (λc1 hy=>?_) (λc1 hy=>?_)
   ·obtain rfl:=aU hy;refine bL ?_;refine cD ?_
    try simp only [cM,iT]
    refine ⟨by simp,?_⟩;simp only [go_sem,↓reduceIte,true_and];exact ⟨_,gm,gk,gs,gn⟩
   ·refine bP ?_
    try simp only [aK]
    obtain ⟨s,hs,hy⟩:=aF hy;obtain ⟨f4,f5,f6⟩:=bI hs;obtain ⟨HV,rv,q3,q4⟩:=iC.readI' gs f6;have q3':m3.hp sid=some HV:=q3;have hkn:k<(n:Int):=by omega
    have hix3:∀ {K:V->Prop},rU prog (.sl 3) (.vec sid 1 n) (.lit (.int .i64 k)) K=K (.pp (rA (.vec sid 1 n)) (k.toNat*1)):=uM.ix (P:=prog) (k:=.i64) (.inr ⟨sid,rfl⟩) UG f4 hkn
    have hlen:(k.toNat+1<=HV.length)=True:=eq_true (by
     have:=congrArg List.length q4;simp only [Pw,pX] at this;omega)
    have hset:=gs.setRow (h':=lE m3.hp sid (HV.set k.toNat (.lit (.int .i64 (i64.wrap (s+1)))))) (k:=0) (u:=.lit (.int .i64 (i64.wrap (s+1)))) (i:=k.toNat) (r:=cI .i64 s) (vs:=HV) (by rw [HS,f6];rfl) (by omega) q3' (by show (if sid=sid then _ else _)=_;rw [if_pos rfl,PH];rfl)
    have gs2:iC (lE m3.hp sid (HV.set k.toNat (.lit (.int .i64 (i64.wrap (s+1)))))) (.vec sid 1 n) 1 ((sn.set k.toNat (i64.wrap (s+1))).map (cI .i64)):=by
     rw [List.map_set];exact hset
    have hne:∀id,id ≠ sid->lE m3.hp sid (HV.set k.toNat (.lit (.int .i64 (i64.wrap (s+1))))) id=m3.hp id:=λid h=>by show (if id=sid then _ else _)=_;rw [if_neg h]
    have gk2:=gk.other hsep hne;have gc2:=gc.frame (h':=lE m3.hp sid (HV.set k.toNat (.lit (.int .i64 (i64.wrap (s+1)))))) λid hi=>hne id (λe=>hsc (e ▸ hi))
    have f6':(sn.set k.toNat (i64.wrap (s+1)))[k.toNat]? = some (i64.wrap (s+1)):=by
     rw [PL];exact (vJ.1 f6).1
    obtain ⟨HV2,rv2,q5,q6⟩:=iC.readI' gs2 f6';have q5':lE m3.hp sid (HV.set k.toNat (.lit (.int .i64 (i64.wrap (s+1))))) sid=some HV2:=q5;have gn2:(sn.set k.toNat (i64.wrap (s+1))).length=n:=by rw [vK];exact gn
    have vids1:rA (.vec sid 1 n)=sid:=rfl;refine yV ?_;simp only [go_sem,seval,xK,Dg,true_and,pX,sY,g3,hix3,vids1,q3',q4,hlen,gG];refine aO ?_
    rcases jR hy with ⟨c2,hy⟩ | ⟨c2,hy⟩
    ·obtain ⟨r1,hr1,hy⟩:=aF hy;refine dD λ_ z=>?_;simp only [go_sem,seval,xK,Dg,Dh,Ga,g0,g2,g3,hix3,vids1,q5',q6,c2];refine SC.mono (hrec c k to _ r1 hr1 _ _ P0 F fp S C fs cs ew sid n (by simp only [go_sem,gb]) gk2 hsep gn2 gs2) ?_;rintro _ _ ⟨h4,rfl,rfl,gk3,gs3,gn3⟩;simp only [go_sem,seval];apply z;have gc3:iC h4 cv 1 (l.map (cI .i64)):=gk3.rCi fr.toNat l cv f3 hcv;refine dI hy (λc3 hy=>?_) (λc3 hy=>?_)
     ·obtain rfl:=aU hy;refine bL ?_;refine cD ?_
      try simp only [cM,iT]
      refine ⟨by simp,?_⟩;simp only [go_sem,↓reduceIte,true_and];refine ⟨h4,?_,gk3,gs3,gn3⟩;rw [xJ,gm];rfl
     ·refine bP ?_
      try simp only [aK,bU]
      refine lP ?_;refine ⟨rest.length,by simp,v+1,rest,r1.2,rfl,hdr2,by simp at hvl;omega,hy,?_⟩;refine ⟨?_,?_,?_,?_,?_,?_,?_,gk3,gs3,gn3,gc3,?_⟩ <;> simp only [go_sem,seval,g0,g2,g3,g17,g18,gb]
      ·rw [zS (by simp at hvl;omega)]
      ·rw [xJ,gm];rfl
    ·refine dD λ_ z=>?_;simp only [go_sem,seval,g3,hix3,vids1,q5',q6,c2];apply z;refine yX false (by simp only [go_sem,↓reduceIte]) ?_;simp only [↓reduceIte,FZ];refine bP ?_
     try simp only [aK,bU]
     refine lP ?_;refine ⟨rest.length,by simp,v+1,rest,_,rfl,hdr2,by simp at hvl;omega,hy,?_⟩;refine ⟨?_,?_,?_,?_,?_,?_,?_,gk2,gs2,gn2,gc2,?_⟩ <;> simp only [go_sem,seval,g0,g2,g3,g17,g18,gb]
     ·rw [zS (by simp at hvl;omega)]
     ·rw [xJ,gm];rfl
theorem Kz:∀n,IK (kX n)
 | 0=>λ_ _ _ _ _ h=>nomatch h
 | n+1=>MY (Kz n)
