/-
 A walk by hand: whether a function calls another one, by others too.
-/
import Derived.Test.YtncembphlfbgoaaDoorCFH5
import Derived.Test.YtncembphlfbgoaaDoorCFGMm
import Derived.Test.YtncembphlfbgoaaDoorCFFacts
namespace Go.Proofs.YtncembphlfbgoaaDoor.Abs
open Go.RowKit
set_option linter.unusedVariables false
set_option maxRecDepth 10000
theorem qR {v:Nat} (h:v+1<=1073741824):IntKind.i64.wrap ((v:Int)+1)=((v+1:Nat):Int):=by
 have:IntKind.i64.wrap ((v:Int)+1)=(v:Int)+1:=by unfold IntKind.wrap;simp [IntKind.bits,IntKind.signed];omega
 rw [this];rfl
theorem tW.other {F fp S C:V} {fs:List (V × V)} {cs:List V} {h h':Hp} {x:aD} {sid:Pa} (hk:tW F fp S C fs cs h x) (hs:∀a b,sid ∉ hM (kV F S C fs cs a b)) (hh:∀id,id ≠ sid->h' id=h id):tW F fp S C fs cs h' x:=by
 have hfr:∀ {a b},∀id ∈ hM (kV F S C fs cs a b),h' id=h id:=fun {a b} id hi=>hh id (fun e=>hs a b (e ▸ hi));exact ⟨hk.fl,hk.rF.frame (hfr (a:=0) (b:=0)),hk.frV fun i=>hfr,hk.rS.frame (hfr (a:=1) (b:=0)),hk.cl,hk.rC.frame (hfr (a:=2) (b:=0)),hk.frC fun i=>hfr,hk.rfp,hk.nd⟩
def AM (f:aD->Int->Int->List Int->Option (Bool × List Int)):Prop:=
 ∀(c:aD) (fr to:Int) (seen:List Int) (r:Bool × List Int),f c fr to seen=some r->∀(q:Pa) (m:M) (P0:Pa) (F fp S C:V) (fs:List (V × V)) (cs:List V) (ew:aF) (sid:Pa) (n:Nat),
  m.blk P0=some (kT F fp S C c ew)->tW F fp S C fs cs m.hp c->(∀a b,sid ∉ hM (kV F S C fs cs a b))->seen.length=n->eP m.hp (.vec sid 1 n) 1 (seen.map (cI .i64)) ->
  SC Tryd.prog 14 [.ptr P0 0,.lit (.int .i64 fr),.lit (.int .i64 to),.vec sid 1 n] q m (fun v m'=>∃h,v=.lit (.bool r.1)/\m'=m.seth h/\tW F fp S C fs cs h c/\eP h (.vec sid 1 n) 1 (r.2.map (cI .i64))/\r.2.length=n)
theorem Dj {rec_:aD->Int->Int->List Int->Option (Bool × List Int)} (hrec:AM rec_):AM (fun c fr to seen=>(cJ c.bO fr).bind fun l=>kM (l.length<=1073741824) <| pN (fun k s=>rec_ c k to s) to l seen):=by
 intro c fr to seen r h q m P0 F fp S C fs cs ew sid n hmP0 hk hsep hsn hsv;refine SC.apart hmP0 fun hpP0=>?_;simp only [go_sem] at hmP0;refine eN Tryd.func14 rfl (fun xs w=>Tryd.call14 xs w) Tryd.ntmps14 (by kernel_rfl) Tryd.results14 ?_;simp only at h;obtain ⟨l,hl,h⟩:=aC h;obtain ⟨f1,f2,f3⟩:=bF hl;obtain ⟨hlm,h⟩:=cK h
 obtain ⟨cv,hcv⟩:∃v,cs[fr.toNat]? = some v:=by
  have:=(List.getElem?_eq_some_iff.1 f3).1;rw [←hk.cl] at this;exact ⟨_,List.getElem?_eq_getElem this⟩
 have hcR:eP m.hp cv 1 (l.map (cI .i64)):=hk.rCi fr.toNat l cv f3 hcv;have hcS:=hcR.shC;have hsc:sid ∉ hM cv:=fun hi=>hsep 4 fr.toNat (by show sid ∈ hM (match cs[fr.toNat]? with | some v=>v | none=>.nilv);rw [hcv];exact hi);obtain ⟨HC,rs,e1,e2,e3,e4⟩:=hk.rC.fC (i:=fr.toNat) (r:=[cv]) (by rw [List.getElem?_map,hcv];rfl);have s1:HC.drop fr.toNat=cv::rs:=by have:=e3 0 (by omega);rwa [Nat.mul_one] at this
 have hCS:oK C 1 c.bO.length:=by
  have:=hk.rC.sh
  rwa [List.length_map,hk.cl] at this
 have hix:∀ {K:V->Prop},mS Tryd.prog (.sl 52) C (.lit (.int .i64 fr)) K=K (.pp (lO C) (fr.toNat*1)):=oK.ix (P:=Tryd.prog) (k:=.i64) hCS sz52 f1 f2;refine aL fun _ z=>?_;simp only [go_sem];apply z;refine aI ?_;refine aL fun _ z=>?_;simp only [go_sem,seval,List.drop_succ_cons,List.drop_zero,hmP0,hCS.ld,hix,e1,s1,hcS.slen];apply z;refine bK ?_
 refine dE [] [] rfl (fun k E' m'=>∃(v:Nat) (rest sn:List Int),k=rest.length/\l.drop v=rest/\v+rest.length=l.length/\pN (fun k s=>rec_ c k to s) to rest sn=some r/\E' 0=.ptr P0 0/\E' 2=.lit (.int .i64 to)/\E' 3=.vec sid 1 n/\E' 17=cv/\E' 18=.lit (.int .i64 (l.length:Int))/\E' 19=.lit (.int .i64 (v:Int)) ∧
  m'.blk P0=some [F,fp,S,C,.lit (.int .i64 c.fC),.lit (.int .i64 ew.e_),.lit (.int .i64 ew.uE)]/\tW F fp S C fs cs m'.hp c/\eP m'.hp (.vec sid 1 n) 1 (sn.map (cI .i64))/\sn.length=n/\eP m'.hp cv 1 (l.map (cI .i64))/\m.back q m'=m.seth m'.hp) l.length ⟨0,l,seen,rfl,rfl,by simp,h,?_⟩ ?_
 ·refine ⟨?_,?_,?_,?_,?_,?_,?_,hk,hsv,hsn,hcR,?_⟩ <;> simp only [go_sem,seval,hmP0,aK]
  rfl
 rintro i1 k0 E2 m3 ⟨v,rest,sn,rfl,hdr,hvl,hy,g0,g2,g3,g17,g18,g19,gb,gk,gs,gn,gc,gm⟩ _;refine aL fun _ z=>?_;simp only [go_sem,g19,g18];apply z;refine aI ?_;cases rest with
 | nil=>
   have hv0:decide ((v:Int)<(l.length:Int))=false:=by simp at hvl;simp;omega
   refine oA false (by simp only [go_sem,↓reduceIte,hv0]) ?_;simp only [↓reduceIte,Bool.false_eq_true];refine eG ?_
   try simp only [seval,bZ,bQ,aE,bZ,bQ]
   obtain rfl:=aJ hy;refine aL fun _ z=>?_;simp only [go_sem,Nat.reduceAdd];apply z;refine aU ?_;refine ⟨by simp,?_⟩;simp only [go_sem,↓reduceIte,true_and];exact ⟨_,gm,gk,gs,gn⟩
 | cons k rest=>
   have hv1:decide ((v:Int)<(l.length:Int))=true:=by simp at hvl;simp;omega
   have hlk:l[v]? = some k:=by
    have:=congrArg List.head? hdr;simpa [List.head?_drop] using this
   have hdr2:l.drop (v+1)=rest:=by
    have:=congrArg List.tail hdr;simpa using this
   have hvb:(v:Int)<(l.length:Int):=by simpa using hv1
   refine oA true (by simp only [go_sem,↓reduceIte,hv1]) ?_;simp only [↓reduceIte];refine bB ?_
   try simp only [aE]
   refine aI ?_;refine bK ?_;refine aI ?_;obtain ⟨HK,rk,q1,q2⟩:=eP.readI' gc hlk;have hcS2:=gc.shC;have hix2:∀ {K:V->Prop},mS Tryd.prog (.sl 3) cv (.lit (.int .i64 (v:Int))) K=K (.pp (lO cv) (((v:Int)).toNat*1)):=oK.ix (P:=Tryd.prog) (k:=.i64) hcS2 sz3 (by omega) hvb;refine aM fun _ z=>?_;simp only [go_sem,seval,g17,g19,hix2,q1,q2];apply z;refine aI ?_;refine aL fun _ z=>?_;simp only [go_sem,seval,g2];apply z;simp only [pN] at hy;refine dA (k == to) (fun c1=>?_) (fun c1=>?_)
   ·replace hy:=bC c1 hy;obtain rfl:=aJ hy;refine aL fun _ z=>?_;simp only [go_sem,Nat.reduceAdd];apply z;refine aU ?_
    try simp only [bE,bX]
    refine ⟨by simp,?_⟩;simp only [go_sem,↓reduceIte,true_and];exact ⟨_,gm,gk,gs,gn⟩
   ·replace hy:=bD c1 hy;refine bB ?_
    try simp only [aE]
    obtain ⟨s,hs,hy⟩:=aC hy;obtain ⟨f4,f5,f6⟩:=bF hs;obtain ⟨HV,rv,q3,q4⟩:=eP.readI' gs f6;have q3':m3.hp sid=some HV:=q3;have hkn:k<(n:Int):=by omega
    have hix3:∀ {K:V->Prop},mS Tryd.prog (.sl 3) (.vec sid 1 n) (.lit (.int .i64 k)) K=K (.pp (lO (.vec sid 1 n)) (k.toNat*1)):=oK.ix (P:=Tryd.prog) (k:=.i64) (.inr ⟨sid,rfl⟩) sz3 f4 hkn
    have hlen:(k.toNat+1<=HV.length)=True:=eq_true (by
     have:=congrArg List.length q4;simp only [List.length_drop,List.length_cons] at this;omega)
    have hset:=gs.setRow (h':=oT m3.hp sid (HV.set k.toNat (.lit (.int .i64 (IntKind.i64.wrap (s+1)))))) (k:=0) (u:=.lit (.int .i64 (IntKind.i64.wrap (s+1)))) (i:=k.toNat) (r:=cI .i64 s) (vs:=HV) (by rw [List.getElem?_map,f6];rfl) (by omega) q3' (by show (if sid=sid then _ else _)=_;rw [if_pos rfl,Nat.mul_one];rfl)
    have gs2:eP (oT m3.hp sid (HV.set k.toNat (.lit (.int .i64 (IntKind.i64.wrap (s+1)))))) (.vec sid 1 n) 1 ((sn.set k.toNat (IntKind.i64.wrap (s+1))).map (cI .i64)):=by
     rw [List.map_set];exact hset
    have hne:∀id,id ≠ sid->oT m3.hp sid (HV.set k.toNat (.lit (.int .i64 (IntKind.i64.wrap (s+1))))) id=m3.hp id:=fun id h=>by show (if id=sid then _ else _)=_;rw [if_neg h]
    have gk2:=gk.other hsep hne;have gc2:=gc.frame (h':=oT m3.hp sid (HV.set k.toNat (.lit (.int .i64 (IntKind.i64.wrap (s+1)))))) fun id hi=>hne id (fun e=>hsc (e ▸ hi))
    have f6':(sn.set k.toNat (IntKind.i64.wrap (s+1)))[k.toNat]? = some (IntKind.i64.wrap (s+1)):=by
     rw [List.getElem?_set_self];exact (List.getElem?_eq_some_iff.1 f6).1
    obtain ⟨HV2,rv2,q5,q6⟩:=eP.readI' gs2 f6';have q5':oT m3.hp sid (HV.set k.toNat (.lit (.int .i64 (IntKind.i64.wrap (s+1))))) sid=some HV2:=q5;have gn2:(sn.set k.toNat (IntKind.i64.wrap (s+1))).length=n:=by rw [List.length_set];exact gn
    have vids1:lO (.vec sid 1 n)=sid:=rfl;refine aL fun _ z=>?_;simp only [go_sem,seval,List.map_cons,List.map_nil,true_and,List.length_cons,List.length_nil,g3,hix3,vids1,q3',q4,hlen,zF];apply z;refine aI ?_
    rcases cY (IntKind.i64.wrap (s+(1:Int)) == (1:Int)) with c2 | c2
    ·replace hy:=bC c2 hy;obtain ⟨r1,hr1,hy⟩:=aC hy;refine aM fun _ z=>?_;simp only [go_sem,seval,List.map_cons,List.map_nil,List.nil_append,List.append_nil,g0,g2,g3,hix3,vids1,q5',q6,c2];refine SC.mono (hrec c k to _ r1 hr1 _ _ P0 F fp S C fs cs ew sid n (by simp only [go_sem,gb]) gk2 hsep gn2 gs2) ?_;rintro _ _ ⟨h4,rfl,rfl,gk3,gs3,gn3⟩;simp only [go_sem,seval];apply z;have gc3:eP h4 cv 1 (l.map (cI .i64)):=gk3.rCi fr.toNat l cv f3 hcv;refine dA r1.1 (fun c3=>?_) (fun c3=>?_)
     ·replace hy:=bC c3 hy;obtain rfl:=aJ hy;refine aL fun _ z=>?_;simp only [go_sem,Nat.reduceAdd];apply z;refine aU ?_
      try simp only [bE,bX]
      refine ⟨by simp,?_⟩;simp only [go_sem,↓reduceIte,true_and];refine ⟨h4,?_,gk3,gs3,gn3⟩;rw [AV,gm];rfl
     ·replace hy:=bD c3 hy;refine bB ?_
      try simp only [aE,aT]
      refine aM fun _ z=>?_;simp only [go_sem,seval,g19];apply z;refine ⟨rest.length,by simp,v+1,rest,r1.2,rfl,hdr2,by simp at hvl;omega,hy,?_⟩;refine ⟨?_,?_,?_,?_,?_,?_,?_,gk3,gs3,gn3,gc3,?_⟩ <;> simp only [go_sem,seval,g0,g2,g3,g17,g18,gb]
      ·rw [qR (by simp at hvl;omega)]
      ·rw [AV,gm];rfl
    ·replace hy:=bD c2 hy;refine aM fun _ z=>?_;simp only [go_sem,seval,g3,hix3,vids1,q5',q6,c2];apply z;refine oA false (by simp only [go_sem,↓reduceIte]) ?_;simp only [↓reduceIte,Bool.false_eq_true];refine bB ?_
     try simp only [aE,aT]
     refine aM fun _ z=>?_;simp only [go_sem,seval,g19];apply z;refine ⟨rest.length,by simp,v+1,rest,_,rfl,hdr2,by simp at hvl;omega,hy,?_⟩;refine ⟨?_,?_,?_,?_,?_,?_,?_,gk2,gs2,gn2,gc2,?_⟩ <;> simp only [go_sem,seval,g0,g2,g3,g17,g18,gb]
     ·rw [qR (by simp at hvl;omega)]
     ·rw [AV,gm];rfl
theorem BH:∀n,AM (gR n)
 | 0=>fun _ _ _ _ _ h=>nomatch h
 | n+1=>Dj (BH n)
end Go.Proofs.YtncembphlfbgoaaDoor.Abs
