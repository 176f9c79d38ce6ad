/- Lemmas of ours. -/
import Derived.Test.YtncembphlfbgoaaGreatDoorIPH5
import Derived.Test.YtncembphlfbgoaaGreatDoorIPFacts
namespace Go.Proofs.YtncembphlfbgoaaGreatDoor.Abs
open Go.RowKit Tryz
open IntKind (i64 u32 u64 u8)
set_option linter.unusedVariables false
set_option maxRecDepth 10000
theorem vX {v:Nat} (h:v+1<=1073741824):i64.wrap ((v:Int)+1)=((v+1:Nat):Int):=by
 have:i64.wrap ((v:Int)+1)=(v:Int)+1:=by unfold IntKind.wrap;simp [IntKind.bits,IntKind.signed];omega
 rw [this];rfl
theorem Ak.other {F fp S C:V} {fs:List (V × V)} {cs:List V} {h h':Hp} {x:aD} {sid:Pa} (hk:Ak F fp S C fs cs h x) (hs:∀a b,sid ∉ iY (oF F S C fs cs a b)) (hh:∀id,id ≠ sid->h' id=h id):Ak F fp S C fs cs h' x:=by
 have hfr:∀ {a b},∀id ∈ iY (oF F S C fs cs a b),h' id=h id:=fun {a b} id hi=>hh id (fun e=>hs a b (e ▸ hi));exact ⟨hk.fl,hk.rF.frame (hfr (a:=0) (b:=0)),hk.frV fun i=>hfr,hk.rS.frame (hfr (a:=1) (b:=0)),hk.cl,hk.rC.frame (hfr (a:=2) (b:=0)),hk.frC fun i=>hfr,hk.rfp,hk.nd⟩
def FJ (f:aD->Int->Int->List Int->Option (Bool × List Int)):Prop:=
 ∀(c:aD) (fr to:Int) (seen:List Int) (r:Bool × List Int),f c fr to seen=some r->∀(q:Pa) (m:M) (P0:Pa) (F fp S C:V) (fs:List (V × V)) (cs:List V) (ew:aI) (sid:Pa) (n:Nat),
  m.blk P0=some (oD F fp S C c ew)->Ak F fp S C fs cs m.hp c->(∀a b,sid ∉ iY (oF F S C fs cs a b))->seen.length=n->fD m.hp (.vec sid 1 n) 1 (seen.map (cI .i64)) ->
  SC prog 30 [.ptr P0 0,.lit (.int .i64 fr),.lit (.int .i64 to),.vec sid 1 n] q m (fun v m'=>∃h,v=.lit (.bool r.1)/\m'=m.seth h/\Ak F fp S C fs cs h c/\fD h (.vec sid 1 n) 1 (r.2.map (cI .i64))/\r.2.length=n)
theorem Jp {rec_} (hrec:FJ rec_):FJ (fun c fr to seen=>(bV c.cK fr).bind fun l=>gX (l.length<=1073741824) <| uK (fun k s=>rec_ c k to s) to l seen):=by
 intro c fr to seen r h q m P0 F fp S C fs cs ew sid n w0 hk hsep hsn hsv;refine SC.apart w0 fun u0=>?_;simp only [go_sem] at w0;refine eD func30 call30 ntmps30 results30 ?_;simp only at h;obtain ⟨l,hl,h⟩:=aA h;obtain ⟨f1,f2,f3⟩:=aZ hl;obtain ⟨hlm,h⟩:=bP h
 obtain ⟨cv,hcv⟩:∃v,cs[fr.toNat]? = some v:=by
  have:=(qJ.1 f3).1;rw [←hk.cl] at this;exact ⟨_,tA this⟩
 have hcR:fD m.hp cv 1 (l.map (cI .i64)):=hk.rCi fr.toNat l cv f3 hcv;have hcS:=hcR.shC;have hsc:sid ∉ iY cv:=fun hi=>hsep 4 fr.toNat (by show sid ∈ iY (match cs[fr.toNat]? with | some v=>v | none=>.nilv);rw [hcv];exact hi);obtain ⟨HC,rs,e1,e2,e3,e4⟩:=hk.rC.gB (i:=fr.toNat) (r:=[cv]) (by rw [yH,hcv];rfl);have s1:HC.drop fr.toNat=cv::rs:=by have:=e3 0 (by omega);rwa [LO] at this
 have hCS:sZ C 1 c.cK.length:=by
  have:=hk.rC.sh
  rwa [sY,hk.cl] at this
 have hix:∀ {K:V->Prop},qW prog (.sl 84) C (.lit (.int .i64 fr)) K=K (.pp (oL C) (fr.toNat*1)):=sZ.ix (P:=prog) (k:=.i64) hCS sz84 f1 f2;refine aL ?_;refine aF (sW ?_);simp only [go_sem,seval,zM,qU,w0,hCS.ld,hix,e1,s1,hcS.slen];refine bM ?_
 refine kX (fun k E' m'=>∃(v:Nat) (rest sn:List Int),k=rest.length/\l.drop v=rest/\v+rest.length=l.length/\uK (fun k s=>rec_ c k to s) to rest sn=some r/\E' 0=.ptr P0 0/\E' 2=.lit (.int .i64 to)/\E' 3=.vec sid 1 n/\E' 17=cv/\E' 18=.lit (.int .i64 (l.length:Int))/\E' 19=.lit (.int .i64 (v:Int)) ∧
  m'.blk P0=some [F,fp,S,C,.lit (.int .i64 c.gB),.lit (.int .i64 ew.e_),.lit (.int .i64 ew.Av)]/\Ak F fp S C fs cs m'.hp c/\fD m'.hp (.vec sid 1 n) 1 (sn.map (cI .i64))/\sn.length=n/\fD m'.hp cv 1 (l.map (cI .i64))/\m.back q m'=m.seth m'.hp) l.length ⟨0,l,seen,rfl,rfl,by simp,h,?_⟩ ?_
 ·refine ⟨?_,?_,?_,?_,?_,?_,?_,hk,hsv,hsn,hcR,?_⟩ <;> simp only [go_sem,seval,w0,bK]
  rfl
 rintro i1 k0 E2 m3 ⟨v,rest,sn,rfl,hdr,hvl,hy,g0,g2,g3,g17,g18,g19,gb,gk,gs,gn,gc,gm⟩ _;refine aL ?_;refine aF ?_;cases rest with
 | nil=>
   have hv0:decide ((v:Int)<(l.length:Int))=false:=by simp at hvl;simp;omega
   refine iF false (by simp only [go_sem,↓reduceIte,hv0]) ?_;simp only [↓reduceIte,yI];refine dQ ?_
   try simp only [seval,bZ,bR,aK,bZ,bR]
   obtain rfl:=bO hy;refine aL ?_;refine aO ?_;refine ⟨by simp,?_⟩;simp only [go_sem,↓reduceIte,true_and];exact ⟨_,gm,gk,gs,gn⟩
 | cons k rest=>
   have hv1:decide ((v:Int)<(l.length:Int))=true:=by simp at hvl;simp;omega
   have hlk:l[v]? = some k:=by
    have:=congrArg List.head? hdr;simpa [Qh] using this
   have hdr2:l.drop (v+1)=rest:=by
    have:=congrArg List.tail hdr;simpa using this
   have hvb:(v:Int)<(l.length:Int):=by simpa using hv1
   refine iF true (by simp only [go_sem,↓reduceIte,hv1]) ?_;simp only [↓reduceIte];refine aU ?_
   refine aF (bM (aF ?_));obtain ⟨HK,rk,q1,q2⟩:=fD.readI' gc hlk;have hcS2:=gc.shC;have hix2:∀ {K:V->Prop},qW prog (.sl 3) cv (.lit (.int .i64 (v:Int))) K=K (.pp (oL cv) (((v:Int)).toNat*1)):=sZ.ix (P:=prog) (k:=.i64) hcS2 Qx (by omega) hvb;refine aP fun _ z=>?_;simp only [go_sem,seval,g17,g19,hix2,q1,q2];apply z;refine aF (aL ?_);simp only [uK] at hy;refine bH hy (fun c1 hy=>?_) (fun c1 hy=>?_)
   ·obtain rfl:=bO hy;refine aL ?_;refine aO ?_
    try simp only [aT,bI]
    refine ⟨by simp,?_⟩;simp only [go_sem,↓reduceIte,true_and];exact ⟨_,gm,gk,gs,gn⟩
   ·refine aU ?_
    try simp only [aK]
    obtain ⟨s,hs,hy⟩:=aA hy;obtain ⟨f4,f5,f6⟩:=aZ hs;obtain ⟨HV,rv,q3,q4⟩:=fD.readI' gs f6;have q3':m3.hp sid=some HV:=q3;have hkn:k<(n:Int):=by omega
    have hix3:∀ {K:V->Prop},qW prog (.sl 3) (.vec sid 1 n) (.lit (.int .i64 k)) K=K (.pp (oL (.vec sid 1 n)) (k.toNat*1)):=sZ.ix (P:=prog) (k:=.i64) (.inr ⟨sid,rfl⟩) Qx f4 hkn
    have hlen:(k.toNat+1<=HV.length)=True:=eq_true (by
     have:=congrArg List.length q4;simp only [HR,jC] at this;omega)
    have hset:=gs.setRow (h':=sH m3.hp sid (HV.set k.toNat (.lit (.int .i64 (i64.wrap (s+1)))))) (k:=0) (u:=.lit (.int .i64 (i64.wrap (s+1)))) (i:=k.toNat) (r:=cI .i64 s) (vs:=HV) (by rw [yH,f6];rfl) (by omega) q3' (by show (if sid=sid then _ else _)=_;rw [if_pos rfl,LO];rfl)
    have gs2:fD (sH m3.hp sid (HV.set k.toNat (.lit (.int .i64 (i64.wrap (s+1)))))) (.vec sid 1 n) 1 ((sn.set k.toNat (i64.wrap (s+1))).map (cI .i64)):=by
     rw [PP];exact hset
    have hne:∀id,id ≠ sid->sH m3.hp sid (HV.set k.toNat (.lit (.int .i64 (i64.wrap (s+1))))) id=m3.hp id:=fun id h=>by show (if id=sid then _ else _)=_;rw [if_neg h]
    have gk2:=gk.other hsep hne;have gc2:=gc.frame (h':=sH m3.hp sid (HV.set k.toNat (.lit (.int .i64 (i64.wrap (s+1)))))) fun id hi=>hne id (fun e=>hsc (e ▸ hi))
    have f6':(sn.set k.toNat (i64.wrap (s+1)))[k.toNat]? = some (i64.wrap (s+1)):=by
     rw [Io];exact (qJ.1 f6).1
    obtain ⟨HV2,rv2,q5,q6⟩:=fD.readI' gs2 f6';have q5':sH m3.hp sid (HV.set k.toNat (.lit (.int .i64 (i64.wrap (s+1))))) sid=some HV2:=q5;have gn2:(sn.set k.toNat (i64.wrap (s+1))).length=n:=by rw [GI];exact gn
    have vids1:oL (.vec sid 1 n)=sid:=rfl;refine sW ?_;simp only [go_sem,seval,lQ,oU,true_and,jC,lA,g3,hix3,vids1,q3',q4,hlen,qH];refine aF ?_
    rcases dD hy with ⟨c2,hy⟩ | ⟨c2,hy⟩
    ·obtain ⟨r1,hr1,hy⟩:=aA hy;refine aP fun _ z=>?_;simp only [go_sem,seval,lQ,oU,uG,Et,g0,g2,g3,hix3,vids1,q5',q6,c2];refine SC.mono (hrec c k to _ r1 hr1 _ _ P0 F fp S C fs cs ew sid n (by simp only [go_sem,gb]) gk2 hsep gn2 gs2) ?_;rintro _ _ ⟨h4,rfl,rfl,gk3,gs3,gn3⟩;simp only [go_sem,seval];apply z;have gc3:fD h4 cv 1 (l.map (cI .i64)):=gk3.rCi fr.toNat l cv f3 hcv;refine bH hy (fun c3 hy=>?_) (fun c3 hy=>?_)
     ·obtain rfl:=bO hy;refine aL ?_;refine aO ?_
      try simp only [aT,bI]
      refine ⟨by simp,?_⟩;simp only [go_sem,↓reduceIte,true_and];refine ⟨h4,?_,gk3,gs3,gn3⟩;rw [gQ,gm];rfl
     ·refine aU ?_
      try simp only [aK,aQ]
      refine cH ?_;refine ⟨rest.length,by simp,v+1,rest,r1.2,rfl,hdr2,by simp at hvl;omega,hy,?_⟩;refine ⟨?_,?_,?_,?_,?_,?_,?_,gk3,gs3,gn3,gc3,?_⟩ <;> simp only [go_sem,seval,g0,g2,g3,g17,g18,gb]
      ·rw [vX (by simp at hvl;omega)]
      ·rw [gQ,gm];rfl
    ·refine aP fun _ z=>?_;simp only [go_sem,seval,g3,hix3,vids1,q5',q6,c2];apply z;refine iF false (by simp only [go_sem,↓reduceIte]) ?_;simp only [↓reduceIte,yI];refine aU ?_
     try simp only [aK,aQ]
     refine cH ?_;refine ⟨rest.length,by simp,v+1,rest,_,rfl,hdr2,by simp at hvl;omega,hy,?_⟩;refine ⟨?_,?_,?_,?_,?_,?_,?_,gk2,gs2,gn2,gc2,?_⟩ <;> simp only [go_sem,seval,g0,g2,g3,g17,g18,gb]
     ·rw [vX (by simp at hvl;omega)]
     ·rw [gQ,gm];rfl
theorem He:∀n,FJ (jJ n)
 | 0=>fun _ _ _ _ _ h=>nomatch h
 | n+1=>Jp (He n)
end Go.Proofs.YtncembphlfbgoaaGreatDoor.Abs
