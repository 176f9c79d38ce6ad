/- Lemmas of ours. -/
import Derived.Test.YtncembphlfbgoaaGreatDoorIFH5
import Derived.Test.YtncembphlfbgoaaGreatDoorIFFacts
namespace Go.Proofs.YtncembphlfbgoaaGreatDoor.Abs
open Go.RowKit Tryz
open IntKind (i64 u32 u64 u8)
set_option linter.unusedVariables false
set_option maxRecDepth 10000
theorem vM {v:Nat} (h:v+1<=1073741824):i64.wrap ((v:Int)+1)=((v+1:Nat):Int):=by
 have:i64.wrap ((v:Int)+1)=(v:Int)+1:=by unfold IntKind.wrap;simp [IntKind.bits,IntKind.signed];omega
 rw [this];rfl
theorem zZ.other {F fp S C:V} {fs:List (V × V)} {cs:List V} {h h':Hp} {x:aD} {sid:Pa} (hk:zZ F fp S C fs cs h x) (hs:∀a b,sid ∉ jR (nW F S C fs cs a b)) (hh:∀id,id ≠ sid->h' id=h id):zZ F fp S C fs cs h' x:=by
 have hfr:∀ {a b},∀id ∈ jR (nW F S C fs cs a b),h' id=h id:=fun {a b} id hi=>hh id (fun e=>hs a b (e ▸ hi));exact ⟨hk.fl,hk.rF.frame (hfr (a:=0) (b:=0)),hk.frV fun i=>hfr,hk.rS.frame (hfr (a:=1) (b:=0)),hk.cl,hk.rC.frame (hfr (a:=2) (b:=0)),hk.frC fun i=>hfr,hk.rfp,hk.nd⟩
def Ft (f:aD->Int->Int->List Int->Option (Bool × List Int)):Prop:=
 ∀(c:aD) (fr to:Int) (seen:List Int) (r:Bool × List Int),f c fr to seen=some r->∀(q:Pa) (m:M) (P0:Pa) (F fp S C:V) (fs:List (V × V)) (cs:List V) (ew:aI) (sid:Pa) (n:Nat),
  m.blk P0=some (nU F fp S C c ew)->zZ F fp S C fs cs m.hp c->(∀a b,sid ∉ jR (nW F S C fs cs a b))->seen.length=n->gF m.hp (.vec sid 1 n) 1 (seen.map (cI .i64)) ->
  SC prog 30 [.ptr P0 0,.lit (.int .i64 fr),.lit (.int .i64 to),.vec sid 1 n] q m (fun v m'=>∃h,v=.lit (.bool r.1)/\m'=m.seth h/\zZ F fp S C fs cs h c/\gF h (.vec sid 1 n) 1 (r.2.map (cI .i64))/\r.2.length=n)
theorem IO {rec_} (hrec:Ft rec_):Ft (fun c fr to seen=>(bY c.cJ fr).bind fun l=>gV (l.length<=1073741824) <| tY (fun k s=>rec_ c k to s) to l seen):=by
 intro c fr to seen r h q m P0 F fp S C fs cs ew sid n w0 hk hsep hsn hsv;refine SC.apart w0 fun u0=>?_;simp only [go_sem] at w0;refine dZ func30 call30 ntmps30 results30 ?_;simp only at h;obtain ⟨l,hl,h⟩:=aA h;obtain ⟨f1,f2,f3⟩:=aX hl;obtain ⟨hlm,h⟩:=bS h
 obtain ⟨cv,hcv⟩:∃v,cs[fr.toNat]? = some v:=by
  have:=(qS.1 f3).1;rw [←hk.cl] at this;exact ⟨_,tH this⟩
 have hcR:gF m.hp cv 1 (l.map (cI .i64)):=hk.rCi fr.toNat l cv f3 hcv;have hcS:=hcR.shC;have hsc:sid ∉ jR cv:=fun hi=>hsep 4 fr.toNat (by show sid ∈ jR (match cs[fr.toNat]? with | some v=>v | none=>.nilv);rw [hcv];exact hi);obtain ⟨HC,rs,e1,e2,e3,e4⟩:=hk.rC.gC (i:=fr.toNat) (r:=[cv]) (by rw [zC,hcv];rfl);have s1:HC.drop fr.toNat=cv::rs:=by have:=e3 0 (by omega);rwa [Pt] at this
 have hCS:sQ C 1 c.cJ.length:=by
  have:=hk.rC.sh
  rwa [uQ,hk.cl] at this
 have hix:∀ {K:V->Prop},qI prog (.sl 84) C (.lit (.int .i64 fr)) K=K (.pp (oP C) (fr.toNat*1)):=sQ.ix (P:=prog) (k:=.i64) hCS sz84 f1 f2;refine aM ?_;simp only [go_sem];refine aF (aM ?_);simp only [go_sem,seval,zB,qU,w0,hCS.ld,hix,e1,s1,hcS.slen];refine bN ?_
 refine kN (fun k E' m'=>∃(v:Nat) (rest sn:List Int),k=rest.length/\l.drop v=rest/\v+rest.length=l.length/\tY (fun k s=>rec_ c k to s) to rest sn=some r/\E' 0=.ptr P0 0/\E' 2=.lit (.int .i64 to)/\E' 3=.vec sid 1 n/\E' 17=cv/\E' 18=.lit (.int .i64 (l.length:Int))/\E' 19=.lit (.int .i64 (v:Int)) ∧
  m'.blk P0=some [F,fp,S,C,.lit (.int .i64 c.gC),.lit (.int .i64 ew.e_),.lit (.int .i64 ew.Aj)]/\zZ F fp S C fs cs m'.hp c/\gF m'.hp (.vec sid 1 n) 1 (sn.map (cI .i64))/\sn.length=n/\gF m'.hp cv 1 (l.map (cI .i64))/\m.back q m'=m.seth m'.hp) l.length ⟨0,l,seen,rfl,rfl,by simp,h,?_⟩ ?_
 ·refine ⟨?_,?_,?_,?_,?_,?_,?_,hk,hsv,hsn,hcR,?_⟩ <;> simp only [go_sem,seval,w0,aJ]
  rfl
 rintro i1 k0 E2 m3 ⟨v,rest,sn,rfl,hdr,hvl,hy,g0,g2,g3,g17,g18,g19,gb,gk,gs,gn,gc,gm⟩ _;refine aM ?_;simp only [go_sem,g19,g18];refine aF ?_;cases rest with
 | nil=>
   have hv0:decide ((v:Int)<(l.length:Int))=false:=by simp at hvl;simp;omega
   refine iB false (by simp only [go_sem,↓reduceIte,hv0]) ?_;simp only [↓reduceIte,xX];refine dQ ?_
   try simp only [seval,bZ,bR,aL,bZ,bR]
   obtain rfl:=bV hy;refine aM ?_;simp only [go_sem,Nat.reduceAdd];refine aQ ?_;refine ⟨by simp,?_⟩;simp only [go_sem,↓reduceIte,true_and];exact ⟨_,gm,gk,gs,gn⟩
 | cons k rest=>
   have hv1:decide ((v:Int)<(l.length:Int))=true:=by simp at hvl;simp;omega
   have hlk:l[v]? = some k:=by
    have:=congrArg List.head? hdr;simpa [Pv] using this
   have hdr2:l.drop (v+1)=rest:=by
    have:=congrArg List.tail hdr;simpa using this
   have hvb:(v:Int)<(l.length:Int):=by simpa using hv1
   refine iB true (by simp only [go_sem,↓reduceIte,hv1]) ?_;simp only [↓reduceIte];refine aV ?_
   refine aF (bN (aF ?_));obtain ⟨HK,rk,q1,q2⟩:=gF.readI' gc hlk;have hcS2:=gc.shC;have hix2:∀ {K:V->Prop},qI prog (.sl 3) cv (.lit (.int .i64 (v:Int))) K=K (.pp (oP cv) (((v:Int)).toNat*1)):=sQ.ix (P:=prog) (k:=.i64) hcS2 PM (by omega) hvb;refine aN fun _ z=>?_;simp only [go_sem,seval,g17,g19,hix2,q1,q2];apply z;refine aF (aM ?_);simp only [go_sem,seval,g2];simp only [tY] at hy;refine bJ hy (fun c1 hy=>?_) (fun c1 hy=>?_)
   ·obtain rfl:=bV hy;refine aM ?_;simp only [go_sem,Nat.reduceAdd];refine aQ ?_
    try simp only [aU,bK]
    refine ⟨by simp,?_⟩;simp only [go_sem,↓reduceIte,true_and];exact ⟨_,gm,gk,gs,gn⟩
   ·refine aV ?_
    try simp only [aL]
    obtain ⟨s,hs,hy⟩:=aA hy;obtain ⟨f4,f5,f6⟩:=aX hs;obtain ⟨HV,rv,q3,q4⟩:=gF.readI' gs f6;have q3':m3.hp sid=some HV:=q3;have hkn:k<(n:Int):=by omega
    have hix3:∀ {K:V->Prop},qI prog (.sl 3) (.vec sid 1 n) (.lit (.int .i64 k)) K=K (.pp (oP (.vec sid 1 n)) (k.toNat*1)):=sQ.ix (P:=prog) (k:=.i64) (.inr ⟨sid,rfl⟩) PM f4 hkn
    have hlen:(k.toNat+1<=HV.length)=True:=eq_true (by
     have:=congrArg List.length q4;simp only [Ho,jK] at this;omega)
    have hset:=gs.setRow (h':=rR m3.hp sid (HV.set k.toNat (.lit (.int .i64 (i64.wrap (s+1)))))) (k:=0) (u:=.lit (.int .i64 (i64.wrap (s+1)))) (i:=k.toNat) (r:=cI .i64 s) (vs:=HV) (by rw [zC,f6];rfl) (by omega) q3' (by show (if sid=sid then _ else _)=_;rw [if_pos rfl,Pt];rfl)
    have gs2:gF (rR m3.hp sid (HV.set k.toNat (.lit (.int .i64 (i64.wrap (s+1)))))) (.vec sid 1 n) 1 ((sn.set k.toNat (i64.wrap (s+1))).map (cI .i64)):=by
     rw [xdw];exact hset
    have hne:∀id,id ≠ sid->rR m3.hp sid (HV.set k.toNat (.lit (.int .i64 (i64.wrap (s+1))))) id=m3.hp id:=fun id h=>by show (if id=sid then _ else _)=_;rw [if_neg h]
    have gk2:=gk.other hsep hne;have gc2:=gc.frame (h':=rR m3.hp sid (HV.set k.toNat (.lit (.int .i64 (i64.wrap (s+1)))))) fun id hi=>hne id (fun e=>hsc (e ▸ hi))
    have f6':(sn.set k.toNat (i64.wrap (s+1)))[k.toNat]? = some (i64.wrap (s+1)):=by
     rw [Li];exact (qS.1 f6).1
    obtain ⟨HV2,rv2,q5,q6⟩:=gF.readI' gs2 f6';have q5':rR m3.hp sid (HV.set k.toNat (.lit (.int .i64 (i64.wrap (s+1))))) sid=some HV2:=q5;have gn2:(sn.set k.toNat (i64.wrap (s+1))).length=n:=by rw [HL];exact gn
    have vids1:oP (.vec sid 1 n)=sid:=rfl;refine aM ?_;simp only [go_sem,seval,mK,oL,true_and,jK,lD,g3,hix3,vids1,q3',q4,hlen,rG];refine aF ?_
    rcases dH hy with ⟨c2,hy⟩ | ⟨c2,hy⟩
    ·obtain ⟨r1,hr1,hy⟩:=aA hy;refine aN fun _ z=>?_;simp only [go_sem,seval,mK,oL,tS,Ef,g0,g2,g3,hix3,vids1,q5',q6,c2];refine SC.mono (hrec c k to _ r1 hr1 _ _ P0 F fp S C fs cs ew sid n (by simp only [go_sem,gb]) gk2 hsep gn2 gs2) ?_;rintro _ _ ⟨h4,rfl,rfl,gk3,gs3,gn3⟩;simp only [go_sem,seval];apply z;have gc3:gF h4 cv 1 (l.map (cI .i64)):=gk3.rCi fr.toNat l cv f3 hcv;refine bJ hy (fun c3 hy=>?_) (fun c3 hy=>?_)
     ·obtain rfl:=bV hy;refine aM ?_;simp only [go_sem,Nat.reduceAdd];refine aQ ?_
      try simp only [aU,bK]
      refine ⟨by simp,?_⟩;simp only [go_sem,↓reduceIte,true_and];refine ⟨h4,?_,gk3,gs3,gn3⟩;rw [iH,gm];rfl
     ·refine aV ?_
      try simp only [aL,aS]
      refine aN fun _ z=>?_;simp only [go_sem,seval,g19];apply z;refine ⟨rest.length,by simp,v+1,rest,r1.2,rfl,hdr2,by simp at hvl;omega,hy,?_⟩;refine ⟨?_,?_,?_,?_,?_,?_,?_,gk3,gs3,gn3,gc3,?_⟩ <;> simp only [go_sem,seval,g0,g2,g3,g17,g18,gb]
      ·rw [vM (by simp at hvl;omega)]
      ·rw [iH,gm];rfl
    ·refine aN fun _ z=>?_;simp only [go_sem,seval,g3,hix3,vids1,q5',q6,c2];apply z;refine iB false (by simp only [go_sem,↓reduceIte]) ?_;simp only [↓reduceIte,xX];refine aV ?_
     try simp only [aL,aS]
     refine aN fun _ z=>?_;simp only [go_sem,seval,g19];apply z;refine ⟨rest.length,by simp,v+1,rest,_,rfl,hdr2,by simp at hvl;omega,hy,?_⟩;refine ⟨?_,?_,?_,?_,?_,?_,?_,gk2,gs2,gn2,gc2,?_⟩ <;> simp only [go_sem,seval,g0,g2,g3,g17,g18,gb]
     ·rw [vM (by simp at hvl;omega)]
     ·rw [iH,gm];rfl
theorem GF:∀n,Ft (jD n)
 | 0=>fun _ _ _ _ _ h=>nomatch h
 | n+1=>IO (GF n)
end Go.Proofs.YtncembphlfbgoaaGreatDoor.Abs
