/-
 A walk by hand: whether a function calls another one, by others too.
-/
import Derived.Test.YtldnmmnnohnpkaaGreatDoorILH5
import Derived.Test.YtldnmmnnohnpkaaGreatDoorILGMm
import Derived.Test.YtldnmmnnohnpkaaGreatDoorILFacts
namespace Go.Proofs.YtldnmmnnohnpkaaGreatDoor.Abs
set_option linter.unusedVariables false
open Go.RowKit
set_option maxRecDepth 10000
theorem zg0 {v:Nat} (h:v+1<=1073741824):IntKind.i64.wrap ((v:Int)+1)=((v+1:Nat):Int):=by
 have:IntKind.i64.wrap ((v:Int)+1)=(v:Int)+1:=by unfold IntKind.wrap;simp [IntKind.bits,IntKind.signed];omega
 rw [this];rfl
theorem ChkN.other {F fp S C:V} {fs:List (V × V)} {cs:List V} {h h':Hp} {x:zad} {sid:Pa} (hk:ChkN F fp S C fs cs h x) (hs:∀a b,sid ∉ vids (zfb F S C fs cs a b)) (hh:∀id,id ≠ sid->h' id=h id):ChkN F fp S C fs cs h' x:=by
 have hfr:∀ {a b},∀id ∈ vids (zfb F S C fs cs a b),h' id=h id:=fun {a b} id hi=>hh id (fun e=>hs a b (e ▸ hi));exact ⟨hk.fl,hk.rF.frame (hfr (a:=0) (b:=0)),hk.frV fun i=>hfr,hk.rS.frame (hfr (a:=1) (b:=0)),hk.cl,hk.rC.frame (hfr (a:=2) (b:=0)),hk.frC fun i=>hfr,hk.rfp,hk.nd⟩
def zlg (f:zad->Int->Int->List Int->Option (Bool × List Int)):Prop:=
 ∀(c:zad) (fr to:Int) (seen:List Int) (r:Bool × List Int),f c fr to seen=some r->∀(q:Pa) (m:M) (P0:Pa) (F fp S C:V) (fs:List (V × V)) (cs:List V) (ew:zaj) (sid:Pa) (n:Nat),
  m.blk P0=some (ckC F fp S C c ew)->ChkN F fp S C fs cs m.hp c->(∀a b,sid ∉ vids (zfb F S C fs cs a b))->seen.length=n->VecR m.hp (.vec sid 1 n) 1 (seen.map (cI .i64)) ->
  SC Tryz.prog 41 [.ptr P0 0,.lit (.int .i64 fr),.lit (.int .i64 to),.vec sid 1 n] q m (fun v m'=>∃h,v=.lit (.bool r.1)/\m'=m.seth h/\ChkN F fp S C fs cs h c/\VecR h (.vec sid 1 n) 1 (r.2.map (cI .i64))/\r.2.length=n)
theorem zmv {rec_:zad->Int->Int->List Int->Option (Bool × List Int)} (hrec:zlg rec_):zlg (fun c fr to seen=>(idxL c.zbS fr).bind fun l=>need (l.length<=1073741824) <| zh1 (fun k s=>rec_ c k to s) to l seen):=by
 intro c fr to seen r h q m P0 F fp S C fs cs ew sid n hmP0 hk hsep hsn hsv;refine SC.apart hmP0 fun hpP0=>?_;simp only [go_sem] at hmP0;refine SC_w Tryz.func41 rfl (fun xs w=>Tryz.call41 xs w) Tryz.ntmps41 (by kernel_rfl) Tryz.results41 ?_;simp only at h;obtain ⟨l,hl,h⟩:=bind_some h;obtain ⟨f1,f2,f3⟩:=zaw hl;obtain ⟨hlm,h⟩:=zaM h
 obtain ⟨cv,hcv⟩:∃v,cs[fr.toNat]? = some v:=by
  have:=(List.getElem?_eq_some_iff.1 f3).1;rw [←hk.cl] at this;exact ⟨_,List.getElem?_eq_getElem this⟩
 have hcR:VecR m.hp cv 1 (l.map (cI .i64)):=hk.rCi fr.toNat l cv f3 hcv;have hcS:=hcR.shC;have hsc:sid ∉ vids cv:=fun hi=>hsep 4 fr.toNat (by show sid ∈ vids (match cs[fr.toNat]? with | some v=>v | none=>.nilv);rw [hcv];exact hi);obtain ⟨HC,rs,e1,e2,e3,e4⟩:=hk.rC.at_ (i:=fr.toNat) (r:=[cv]) (by rw [List.getElem?_map,hcv];rfl);have s1:HC.drop fr.toNat=cv::rs:=by have:=e3 0 (by omega);rwa [Nat.mul_one] at this
 have hCS:VSh C 1 c.zbS.length:=by
  have:=hk.rC.sh
  rwa [List.length_map,hk.cl] at this
 have hix:∀ {K:V->Prop},zfr Tryz.prog (.sl 95) C (.lit (.int .i64 fr)) K=K (.pp (vid C) (fr.toNat*1)):=VSh.ix (P:=Tryz.prog) (k:=.i64) hCS sz95 f1 f2;refine zan fun _ z=>?_;simp only [go_sem];apply z;refine zah ?_;refine zan fun _ z=>?_;simp only [go_sem,seval,List.drop_succ_cons,List.drop_zero,hmP0,hCS.ld,hix,e1,s1,hcS.slen];apply z;refine zaG ?_
 refine zbu [] [] rfl (fun k E' m'=>∃(v:Nat) (rest sn:List Int),k=rest.length/\l.drop v=rest/\v+rest.length=l.length/\zh1 (fun k s=>rec_ c k to s) to rest sn=some r/\E' 0=.ptr P0 0/\E' 2=.lit (.int .i64 to)/\E' 3=.vec sid 1 n/\E' 17=cv/\E' 18=.lit (.int .i64 (l.length:Int))/\E' 19=.lit (.int .i64 (v:Int)) ∧
  m'.blk P0=some [F,fp,S,C,.lit (.int .i64 c.at_),.lit (.int .i64 ew.e_),.lit (.int .i64 ew.zj1)]/\ChkN F fp S C fs cs m'.hp c/\VecR m'.hp (.vec sid 1 n) 1 (sn.map (cI .i64))/\sn.length=n/\VecR m'.hp cv 1 (l.map (cI .i64))/\m.back q m'=m.seth m'.hp) l.length ⟨0,l,seen,rfl,rfl,by simp,h,?_⟩ ?_
 ·refine ⟨?_,?_,?_,?_,?_,?_,?_,hk,hsv,hsn,hcR,?_⟩ <;> simp only [go_sem,seval,hmP0,zak]
  rfl
 rintro i1 k0 E2 m3 ⟨v,rest,sn,rfl,hdr,hvl,hy,g0,g2,g3,g17,g18,g19,gb,gk,gs,gn,gc,gm⟩ _;refine zan fun _ z=>?_;simp only [go_sem,g19,g18];apply z;refine zah ?_;cases rest with
 | nil=>
   have hv0:decide ((v:Int)<(l.length:Int))=false:=by simp at hvl;simp;omega
   refine zcH false (by simp only [go_sem,↓reduceIte,hv0]) ?_;simp only [↓reduceIte,Bool.false_eq_true];refine zbG ?_
   try simp only [seval,zaS,zaK,zaa,zaS,zaK]
   obtain rfl:=zag hy;refine zan fun _ z=>?_;simp only [go_sem,Nat.reduceAdd];apply z;refine zau ?_;refine ⟨by simp,?_⟩;simp only [go_sem,↓reduceIte,true_and];exact ⟨_,gm,gk,gs,gn⟩
 | cons k rest=>
   have hv1:decide ((v:Int)<(l.length:Int))=true:=by simp at hvl;simp;omega
   have hlk:l[v]? = some k:=by
    have:=congrArg List.head? hdr;simpa [List.head?_drop] using this
   have hdr2:l.drop (v+1)=rest:=by
    have:=congrArg List.tail hdr;simpa using this
   have hvb:(v:Int)<(l.length:Int):=by simpa using hv1
   refine zcH true (by simp only [go_sem,↓reduceIte,hv1]) ?_;simp only [↓reduceIte];refine zav ?_
   try simp only [zaa]
   refine zah ?_;refine zaG ?_;refine zah ?_;obtain ⟨HK,rk,q1,q2⟩:=VecR.readI' gc hlk;have hcS2:=gc.shC;have hix2:∀ {K:V->Prop},zfr Tryz.prog (.sl 3) cv (.lit (.int .i64 (v:Int))) K=K (.pp (vid cv) (((v:Int)).toNat*1)):=VSh.ix (P:=Tryz.prog) (k:=.i64) hcS2 sz3 (by omega) hvb;refine zao fun _ z=>?_;simp only [go_sem,seval,g17,g19,hix2,q1,q2];apply z;refine zah ?_;refine zan fun _ z=>?_;simp only [go_sem,seval,g2];apply z;simp only [zh1] at hy;refine zbn (k == to) (fun c1=>?_) (fun c1=>?_)
   ·replace hy:=zaA c1 hy;obtain rfl:=zag hy;refine zan fun _ z=>?_;simp only [go_sem,Nat.reduceAdd];apply z;refine zau ?_
    try simp only [zat,zaC]
    refine ⟨by simp,?_⟩;simp only [go_sem,↓reduceIte,true_and];exact ⟨_,gm,gk,gs,gn⟩
   ·replace hy:=zaB c1 hy;refine zav ?_
    try simp only [zaa]
    obtain ⟨s,hs,hy⟩:=bind_some hy;obtain ⟨f4,f5,f6⟩:=zaw hs;obtain ⟨HV,rv,q3,q4⟩:=VecR.readI' gs f6;have q3':m3.hp sid=some HV:=q3;have hkn:k<(n:Int):=by omega
    have hix3:∀ {K:V->Prop},zfr Tryz.prog (.sl 3) (.vec sid 1 n) (.lit (.int .i64 k)) K=K (.pp (vid (.vec sid 1 n)) (k.toNat*1)):=VSh.ix (P:=Tryz.prog) (k:=.i64) (.inr ⟨sid,rfl⟩) sz3 f4 hkn
    have hlen:(k.toNat+1<=HV.length)=True:=eq_true (by
     have:=congrArg List.length q4;simp only [List.length_drop,List.length_cons] at this;omega)
    have hset:=gs.setRow (h':=putH m3.hp sid (HV.set k.toNat (.lit (.int .i64 (IntKind.i64.wrap (s+1)))))) (k:=0) (u:=.lit (.int .i64 (IntKind.i64.wrap (s+1)))) (i:=k.toNat) (r:=cI .i64 s) (vs:=HV) (by rw [List.getElem?_map,f6];rfl) (by omega) q3' (by show (if sid=sid then _ else _)=_;rw [if_pos rfl,Nat.mul_one];rfl)
    have gs2:VecR (putH m3.hp sid (HV.set k.toNat (.lit (.int .i64 (IntKind.i64.wrap (s+1)))))) (.vec sid 1 n) 1 ((sn.set k.toNat (IntKind.i64.wrap (s+1))).map (cI .i64)):=by
     rw [List.map_set];exact hset
    have hne:∀id,id ≠ sid->putH m3.hp sid (HV.set k.toNat (.lit (.int .i64 (IntKind.i64.wrap (s+1))))) id=m3.hp id:=fun id h=>by show (if id=sid then _ else _)=_;rw [if_neg h]
    have gk2:=gk.other hsep hne;have gc2:=gc.frame (h':=putH m3.hp sid (HV.set k.toNat (.lit (.int .i64 (IntKind.i64.wrap (s+1)))))) fun id hi=>hne id (fun e=>hsc (e ▸ hi))
    have f6':(sn.set k.toNat (IntKind.i64.wrap (s+1)))[k.toNat]? = some (IntKind.i64.wrap (s+1)):=by
     rw [List.getElem?_set_self];exact (List.getElem?_eq_some_iff.1 f6).1
    obtain ⟨HV2,rv2,q5,q6⟩:=VecR.readI' gs2 f6';have q5':putH m3.hp sid (HV.set k.toNat (.lit (.int .i64 (IntKind.i64.wrap (s+1))))) sid=some HV2:=q5;have gn2:(sn.set k.toNat (IntKind.i64.wrap (s+1))).length=n:=by rw [List.length_set];exact gn
    have vids1:vid (.vec sid 1 n)=sid:=rfl;refine zan fun _ z=>?_;simp only [go_sem,seval,List.map_cons,List.map_nil,true_and,List.length_cons,List.length_nil,g3,hix3,vids1,q3',q4,hlen,zfK];apply z;refine zah ?_
    rcases za9 (IntKind.i64.wrap (s+(1:Int)) == (1:Int)) with c2 | c2
    ·replace hy:=zaA c2 hy;obtain ⟨r1,hr1,hy⟩:=bind_some hy;refine zao fun _ z=>?_;simp only [go_sem,seval,List.map_cons,List.map_nil,List.nil_append,List.append_nil,g0,g2,g3,hix3,vids1,q5',q6,c2];refine SC.mono (hrec c k to _ r1 hr1 _ _ P0 F fp S C fs cs ew sid n (by simp only [go_sem,gb]) gk2 hsep gn2 gs2) ?_;rintro _ _ ⟨h4,rfl,rfl,gk3,gs3,gn3⟩;simp only [go_sem,seval];apply z;have gc3:VecR h4 cv 1 (l.map (cI .i64)):=gk3.rCi fr.toNat l cv f3 hcv;refine zbn r1.1 (fun c3=>?_) (fun c3=>?_)
     ·replace hy:=zaA c3 hy;obtain rfl:=zag hy;refine zan fun _ z=>?_;simp only [go_sem,Nat.reduceAdd];apply z;refine zau ?_
      try simp only [zat,zaC]
      refine ⟨by simp,?_⟩;simp only [go_sem,↓reduceIte,true_and];refine ⟨h4,?_,gk3,gs3,gn3⟩;rw [zcx,gm];rfl
     ·replace hy:=zaB c3 hy;refine zav ?_
      try simp only [zaa,zaq]
      refine zao fun _ z=>?_;simp only [go_sem,seval,g19];apply z;refine ⟨rest.length,by simp,v+1,rest,r1.2,rfl,hdr2,by simp at hvl;omega,hy,?_⟩;refine ⟨?_,?_,?_,?_,?_,?_,?_,gk3,gs3,gn3,gc3,?_⟩ <;> simp only [go_sem,seval,g0,g2,g3,g17,g18,gb]
      ·rw [zg0 (by simp at hvl;omega)]
      ·rw [zcx,gm];rfl
    ·replace hy:=zaB c2 hy;refine zao fun _ z=>?_;simp only [go_sem,seval,g3,hix3,vids1,q5',q6,c2];apply z;refine zcH false (by simp only [go_sem,↓reduceIte]) ?_;simp only [↓reduceIte,Bool.false_eq_true];refine zav ?_
     try simp only [zaa,zaq]
     refine zao fun _ z=>?_;simp only [go_sem,seval,g19];apply z;refine ⟨rest.length,by simp,v+1,rest,_,rfl,hdr2,by simp at hvl;omega,hy,?_⟩;refine ⟨?_,?_,?_,?_,?_,?_,?_,gk2,gs2,gn2,gc2,?_⟩ <;> simp only [go_sem,seval,g0,g2,g3,g17,g18,gb]
     ·rw [zg0 (by simp at hvl;omega)]
     ·rw [zcx,gm];rfl
theorem zlH:∀n,zlg (zeL n)
 | 0=>fun _ _ _ _ _ h=>nomatch h
 | n+1=>zmv (zlH n)
end Go.Proofs.YtldnmmnnohnpkaaGreatDoor.Abs
