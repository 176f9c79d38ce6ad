/- Lemmas of ours. -/
import Derived.Test.YtncembphlfbgoaaGreatDoorIFGIw0
import Derived.Test.YtncembphlfbgoaaGreatDoorIFIop
namespace Go.Proofs.YtncembphlfbgoaaGreatDoor.Abs
open Go.RowKit Tryz
open IntKind (i64 u32 u64 u8)
set_option linter.unusedVariables false
set_option maxRecDepth 10000
def HX (x:aE):List V:=(aR.C x.p_)++[.lit (.int .i64 x.dP),.lit (.int .i64 x.fP),.lit (.int .i64 x.e_),.list .self (x.bT.map bA.C)]
def blockC (f:aE->aK->(List (List Int))->(List aH)->Option (aE × aK × (List (List Int)))):Prop:=∀a0 a1 a2 a3 r,f a0 a1 a2 a3=some r->∀(q:Pa) (m:M) (vs:List V) (P0 P1:Pa) (z:Nat) (W A:Pa) (AS:List Pa) (LS:List Nat),vs.map V.weak1=[.ptr P0 0,.ptr P1 0,.list .none (a3.map aH.C)]/\m.blk P0=some (HX a0)/\m.blk P1=some (Cj W A a1)/\m.ver P0 4=z+a0.bT.length/\nK m.hp W A AS LS a1.cC a1.cK a2/\(P0=P1)=False/\(P1=P0)=False/\m.gl 3=.eptr [(cA bW.C dY)] 0 0->SC prog 47 vs q m (fun v m'=>v=.tup []/\m'=(m.fr P0 P1 (HX r.1) (z+r.1.bT.length) (Cj W A r.2.1) (sN m.hp W r.2.1.cC AS r.2.2))/\eG a1 a2 r.2.1 r.2.2)
def callC (f:aE->aK->(List (List Int))->aH->Option (aE × aK × (List (List Int)))):Prop:=∀a0 a1 a2 a3 r,f a0 a1 a2 a3=some r->∀(q:Pa) (m:M) (vs:List V) (P0 P1:Pa) (z:Nat) (W A:Pa) (AS:List Pa) (LS:List Nat),vs.map V.weak1=[.ptr P0 0,.ptr P1 0,.agg ((aH.C a3))]/\m.blk P0=some (HX a0)/\m.blk P1=some (Cj W A a1)/\m.ver P0 4=z+a0.bT.length/\nK m.hp W A AS LS a1.cC a1.cK a2/\(P0=P1)=False/\(P1=P0)=False/\m.gl 3=.eptr [(cA bW.C dY)] 0 0->SC prog 123 vs q m (fun v m'=>v=.tup []/\m'=(m.fr P0 P1 (HX r.1) (z+r.1.bT.length) (Cj W A r.2.1) (sN m.hp W r.2.1.cC AS r.2.2))/\eG a1 a2 r.2.1 r.2.2)
theorem ON {HY} (hrec:blockC HY) (n:Nat):callC (dS HY n):=by
 rintro a0 a1 a2 a3 r h q m vs P0 P1 z W A AS LS ⟨hv,hmP0,hmP1,hvrP0,hkF,hn01,hn10,hg⟩;refine SC.wv hv ?_;refine SC.apart hmP0 fun u0=>?_;refine SC.apart hmP1 fun u1=>?_;refine SC.freshH fun hfr=>?_;refine SC.hpq ?_;refine dZ func123 call123 ntmps123 results123 ?_;have hnW:¬ q <:+ W:=fun e=>by have:=hfr W e;rw [hkF.w] at this;cases this
 have hnA:¬ q <:+ A:=fun e=>by have:=hfr A e;rw [hkF.a] at this;cases this
 have hnAS:∀a ∈ AS,¬ q <:+ a:=fun a ha e=>by
  obtain ⟨i,l,h1,h2⟩:=hkF.find ha;have:=hfr a e;rw [hkF.gC i a l h1 h2] at this;cases this
 have np0:(P0=12::10::q)=False:=eq_false fun e=>u0 (by rw [e];exact ⟨[12,10],rfl⟩);have np0':(12::10::q=P0)=False:=eq_false fun e=>u0 (by rw [←e];exact ⟨[12,10],rfl⟩);have np1:(P1=12::10::q)=False:=eq_false fun e=>u1 (by rw [e];exact ⟨[12,10],rfl⟩);have np1':(12::10::q=P1)=False:=eq_false fun e=>u1 (by rw [←e];exact ⟨[12,10],rfl⟩);have hb0:=hmP0;have hb1:=hmP1;simp only [go_sem,tS,BB,HX] at hb0 hb1;unfold dS at h;obtain ⟨hlm,h⟩:=bS h;obtain ⟨f,hf,h⟩:=aA h;obtain ⟨i0,i1,i2⟩:=aX hf;obtain ⟨o,ho,h⟩:=aA h;obtain ⟨cr,hcr,h⟩:=aA h;refine aM ?_;simp only [go_sem,mK,oL,true_and];refine aF (BA [0,1,3,7,15,0,32,127,255,511,1023] 9 [] rfl (by kernel_rfl) fun K hK=>?_);rw [show List.range 9=[0,1,2,3,4,5,6,7,8] from rfl];simp only [go_sem,seval,mK,oL,Ee,tS,Ef,true_and,zB,qU,CY,AQ,jK,lD,uQ,zC,implies_true,fC u0,hb0,i0,i1,i2];refine SC.mono (MI ho _ _ _ AS LS (by rw [hkF.len]) (by rw [hkF.ls,uQ]) (by simp only [go_sem,mK,oL,aY.C_eq])) ?_;rintro _ _ ⟨AS2,h',rfl,rfl,hO⟩;simp only [go_sem,seval,true_and,zB,qU];apply hK;simp only [aL];have hnq:∀ {i:Pa},¬ q <:+ i->¬ (10::q) <:+ i:=fun hi e=>hi ((MA _ _).trans e);have kB:=Hm.hB (ws:=a1.cC) (rs:=a1.cK) (hs:=a2) hkF (fun a ha=>hnq (hnAS a ha)) hO;have kA:nK h' W A AS LS a1.cC a1.cK a2:=hkF.frame (hO.out _ (hnq hnW)) (hO.out _ (hnq hnA)) fun a ha=>hO.out _ (hnq (hnAS a ha))
 have hu2:∀a ∈ AS2,q <:+ a:=fun a ha=>by
  obtain ⟨j,i,rfl⟩:=hO.un a ha;exact ⟨[j,i,21,10],rfl⟩
 have hfo:o.1.f_=f:=by
  unfold Cg at ho;obtain ⟨_,ho⟩:=bS ho;obtain ⟨_,_,ho⟩:=aA ho;obtain rfl:=bV ho;rfl
 refine aF (aM ?_);simp only [go_sem,seval,zB,qU,uQ];refine bN ?_
 refine DF (fun c E' m'=>∃(l:List aG) (v:Nat) (rn:aE) (to:aK),c=l.length/\a3.aP.drop v=l/\v<=a3.aP.length/\qQ n a1 a2 o.2 l v rn to=some cr/\to.f_=f /\ 
  E' 0=.ptr P0 0/\E' 1=.ptr P1 0/\E' 5=.ptr (0::q) 0/\E' 6=.ptr (12::10::q) 0/\E' 21=.list .none (a3.aP.map aG.C)/\E' 22=.lit (.int .i64 (a3.aP.length:Int))/\E' 23=.lit (.int .i64 (v:Int)) /\ 
  m'.blk P0=some (HX rn)/\m'.ver P0 4=z+rn.bT.length/\m'.blk P1=some (Cj W A a1)/\m'.blk (0::q)=some (aH.C a3)/\m'.blk (12::10::q)=some (Cj (6::10::q) (10::10::q) to)/\m'.gl=m.gl/\m.back q m'=(m.setv P0 4 (HX rn) (z+rn.bT.length)).seth m'.hp ∧
  nK m'.hp W A AS LS a1.cC a1.cK a2/\nK m'.hp (6::10::q) (10::10::q) (AS++AS2) (LS++o.2.map List.length) to.cC to.cK (a2++o.2)/\∀i,¬ q <:+ i->m'.hp i=m.hp i) a3.aP.length ?_ ?_
 ·refine ⟨a3.aP,0,a0,o.1,rfl,rfl,La _,hcr,hfo,?_⟩;refine ⟨?_,?_,?_,?_,?_,?_,?_,?_,?_,?_,?_,?_,?_,?_,?_,?_,fun i hi=>?_⟩
  all_goals try simp only [go_sem,seval,tS,BB,HX,aH.C_eq,fC u0,fC u1,np0,np1,hb0,hb1,hvrP0,aO,iH,aJ,lB hvrP0,mU hb0,kA,kB]
  exact hO.out i (hnq hi)
 ·rintro i c E1 m1 ⟨l,v,rn,to,rfl,hl,hvl,hca,htf,e0,e1,e5,e6,e21,e22,e23,b0,v0,b1,bs,bt,gl1,bk,kA1,kB1,ho1⟩ _;have hc0:=b0;have hc1:=b1;have hcs:=bs;have hct:=bt;simp only [go_sem,tS,BB,HX,aH.C_eq] at hc0 hc1 hcs hct;have gl2:m1.gl 3=_:=(congrFun gl1 _).trans hg;refine aM ?_;simp only [go_sem,e22,e23];refine aF ?_;cases l with
  | nil=>
    have hvv:¬ v<a3.aP.length:=by
     have:=congrArg List.length hl;simp only [Ho,lD] at this;omega
    refine iB false (by simp only [go_sem,↓reduceIte];exact congrArg (fun b=>V.lit (.bool b)) (xdn (by omega))) ?_;simp only [↓reduceIte,xX];refine dQ ?_
    try simp only [bZ,bR,↓reduceIte,aL]
    rw [qQ] at hca;obtain rfl:=bV hca;simp only [DX] at h;obtain ⟨b,hb,h⟩:=aA h;obtain ⟨e,he,h⟩:=aA h
    repeat refine aF ?_
    refine aN fun K hK=>?_;simp only [go_sem,seval,mK,oL,tS,Ef,zB,qU,e0,e6,hct];refine SC.mono (hrec rn to (a2++o.2) to.f_.eH _ hb _ _ _ P0 (12::10::q) z (6::10::q) (10::10::q) (AS++AS2) (LS++o.2.map List.length) (by simp only [go_sem,mK,oL,tS,BB,and_true,HX,np0,np0',hc0,hct,v0,kB1,gl2])) ?_;rintro _ _ ⟨rfl,rfl,kp⟩;simp only [go_sem,Nat.reduceAdd];apply hK
    repeat refine aF ?_
    refine aN fun K hK=>?_;simp only [go_sem,seval,mK,oL,tS,Ef,e0];refine SC.by_ (cY b.1 _ he _ _ _ P0 z (by simp only [go_sem,↓reduceIte,mK,oL,tS,BB,and_true,HX])) ?_;simp only [go_sem,Nat.reduceAdd];apply hK
    have hout:∀i,¬ q <:+ i->sN m1.hp (6::10::q) b.2.1.cC (AS++AS2) b.2.2 i=sN m.hp W a1.cC AS (b.2.2.take a2.length) i:=fun i hi=>by
     rw [MR hkF hnW hnAS (show q <:+ 6::10::q from ⟨[6,10],rfl⟩) hu2 ho1 hi,hkF.len]
    have hqP:q <:+ 12::10::q:=⟨[12,10],rfl⟩;have hkeep:eG a1 a2 a1 (b.2.2.take a2.length):=⟨rfl,rfl,rfl,by rw [List.map_take,kp.2.2.2,JC,List.take_left' (by rw [uQ])]⟩;have hh:xA q m.hp (sN m1.hp (6::10::q) b.2.1.cC (AS++AS2) b.2.2)=sN m.hp W a1.cC AS (b.2.2.take a2.length):=DQ hfr hnW hnAS hout;refine Fd e (fun c2=>?_) (fun c2=>?_)
    ·rw [if_pos c2] at h;obtain rfl:=bV h;refine aQ ?_
     try simp only [aU]
     refine ⟨by first | exact .inl rfl | exact .inl trivial,?_⟩;have hh:xA q m.hp (sN m1.hp (6::10::q) b.2.1.cC (AS++AS2) b.2.2)=sN m.hp W a1.cC AS (b.2.2.take a2.length):=DQ hfr hnW hnAS hout;simp only [go_sem,oL,tS,BB,true_and,EC u0 hqP,bk,hh,oE hb1,HX];exact hkeep
    ·rw [if_neg (by simpa using c2)] at h;refine aV ?_
     try simp only [aL]
     repeat refine aF ?_
     refine aN fun K hK=>?_;simp only [go_sem,seval,zB,qU,e5,fC u0,hcs];apply hK;refine Fd (a3.mD == -2) (fun c3=>?_) (fun c3=>?_)
     ·rw [if_pos (by simpa using c3)] at h;obtain rfl:=bV h
      repeat refine aF ?_
      refine aN fun K hK=>?_;simp only [go_sem,seval,true_and,zB,qU,En,FI,jK,lD,e1,e6,np1,np0',hn10,hc1];apply hK;refine aQ ?_
      try simp only [aU]
      refine ⟨by first | exact .inl rfl | exact .inl trivial,?_⟩;simp only [go_sem,oL,tS,BB,true_and,bF u1,EC u0 hqP,bk,hh,oE hb1,HX,Ci hn10];exact eG.res hkeep
     ·rw [if_neg (by simpa using c3)] at h;obtain ⟨p,hp,h⟩:=aA h;obtain rfl:=bV h;refine aV ?_
      refine dR (o0 [0,1,2,3,4,5,6,7]) 38 fun K hK=>?_;simp only [go_sem,seval,mK,oL,zB,qU,AQ,e1,e5,e6,fC u0,np0',hcs]
      have hAS3:∀i ∈ W::A::AS,¬ q <:+ i:=fun i hi=>by
       rcases vI.1 hi with rfl | hi
       ·exact hnW
       ·rcases vI.1 hi with rfl | hi
        ·exact hnA
        ·exact hnAS i hi
      have k3:nK (sN m1.hp (6::10::q) b.2.1.cC (AS++AS2) b.2.2) W A AS LS a1.cC a1.cK (b.2.2.take a2.length):=by
       have:=nK.up (ws':=a1.cC) (hs':=b.2.2.take a2.length) hkF hkeep.2.2.2;exact this.frame (hout W hnW) (hout A hnA) fun a ha=>hout a (hnAS a ha)
      refine cB ((kF a1 (b.2.2.take a2.length) a3.mD b.2.1.qH _ hp _ _ _ P1 W A AS LS (by simp only [go_sem,↓reduceIte,mK,oL,tS,Ef,and_true,np1,hn10,hc1,k3])).mono fun _ _ h=>⟨h.1,h.2.1⟩) rfl ?_;simp only [go_sem];apply hK;simp only [reduceCtorEq];refine ⟨by first | exact .inr rfl | exact .inr trivial,?_⟩
      have kp2:eG a1 (b.2.2.take a2.length) p.1 p.2:=by
       unfold dN at hp
       split at hp
       ·obtain ⟨_,_,hp⟩:=aA hp;obtain rfl:=bV hp;exact eG.setW eG.refl
       ·obtain rfl:=bV hp;exact eG.refl
      have hh2:xA q m.hp (sN (sN m1.hp (6::10::q) b.2.1.cC (AS++AS2) b.2.2) W p.1.cC AS p.2)=sN m.hp W p.1.cC AS p.2:=DQ hfr hnW hnAS fun i hi=>by
       show (if i=W then _ else if i ∈ AS then _ else sN m1.hp _ _ _ _ i)=if i=W then _ else if i ∈ AS then _ else m.hp i
       by_cases e1:i=W
       ·rw [if_pos e1,if_pos e1]
       ·rw [if_neg e1,if_neg e1]
        by_cases e2:i ∈ AS
        ·rw [if_pos e2,if_pos e2]
        ·rw [if_neg e2,if_neg e2,hout i hi];show (if i=W then _ else if i ∈ AS then _ else m.hp i)=_;rw [if_neg e1,if_neg e2]
      simp only [go_sem,oL,tS,BB,true_and,bF u1,iH,EC u0 hqP,bk,hh2,oE hb1,HX,Ci hn10];exact hkeep.trans kp2
  | cons x l=>
    have hvb:v<a3.aP.length:=by
     have:=congrArg List.length hl;simp only [Ho,jK] at this;omega
    have hx:a3.aP[v]? = some x:=by
     have:=congrArg List.head? hl;simpa [Pv] using this
    have hl2:a3.aP.drop (v+1)=l:=by
     have:=congrArg List.tail hl;simpa using this
    have g1:(0:Int)<=(v:Int):=xds _;have g2:(v:Int)<(a3.aP.length:Int):=by omega
    have hw:i64.wrap ((v:Int)+1)=((v+1:Nat):Int):=by rw [fR (by omega) (by omega)];omega
    refine iB true (by simp only [go_sem,↓reduceIte];exact congrArg (fun b=>V.lit (.bool b)) (Fh g2)) ?_;simp only [↓reduceIte];refine aV ?_
    refine aF (bN (aM ?_));simp only [go_sem,seval,mK,oL,Ee,true_and,qU,CY,AQ,En,FI,jK,lD,uQ,zC,implies_true,e21,e23,g1,g2,AP,hx];refine aF (aM ?_);simp only [go_sem,seval,zB,qU];rw [qQ] at hca;refine Fd (x.cU == 4) (fun c1=>?_) (fun c1=>?_)
    ·rw [if_pos (by simpa using c1)] at hca;obtain ⟨k,hk,hca⟩:=aA hca;obtain ⟨⟨s1,s2,s3⟩,hca⟩:=bS hca;obtain ⟨j0,j1,j2⟩:=aX hk;have hkl:k.toNat<a2.length:=by omega
     obtain ⟨a,d1,d2,d3,_,_⟩:=nK.get kA1 s1 (tH hkl);obtain ⟨w1,d4⟩:=rO (f:=xB AS LS) j2;have s4:(v:Int)<(to.cK.length:Int):=by omega
     have s5:v+1<=to.cK.length:=by omega
     have hal:LS.length=AS.length:=by rw [kA1.ls,uQ,kA1.len]
     have hset:((to.cK.map (xB (AS++AS2) (LS++o.2.map List.length))).set v (.vec a 1 a2[k.toNat].length))=(to.cK.set v k).map (xB (AS++AS2) (LS++o.2.map List.length)):=by
      rw [xdw,OO (by rw [kA1.len];exact s2) hal,d1]
     refine aF (dR (o0 [0,1,2,3,4,5,6,7,8,9,10,11,12,13,14]) 25 fun K hK=>?_);simp only [go_sem,seval,mK,oL,true_and,zB,qU,AQ,jK,lD,uQ,fC u1,e1,e6,hc1,hct,kA1.a,kB1.a,j0,j1,d1,d4,g1,s4,s5,AP,hset];apply hK;refine dQ ?_
     try simp only [bZ,bR,↓reduceIte,aL]
     refine aN fun K hK=>?_;simp only [go_sem,seval,e23];apply hK;refine ⟨l.length,xH _,l,v+1,rn,{ to with cK:=to.cK.set v k },rfl,hl2,by omega,hca,htf,?_⟩;refine ⟨?_,?_,?_,?_,?_,?_,?_,?_,?_,?_,?_,?_,?_,?_,?_,?_,fun j hj=>?_⟩
     all_goals try simp only [go_sem,seval,tS,BB,e0,e1,e5,e6,e21,e22,hw,HX,aH.C_eq,fC u0,fC u1,hc0,hc1,hcs,hct,v0,gl1,bk,HL,aO,iH,rG]
     ·exact kA1.frame (if_neg fun e=>hnW (by rw [e];exact ⟨[10,10],rfl⟩)) (if_neg fun e=>hnA (by rw [e];exact ⟨[10,10],rfl⟩)) fun a ha=>if_neg fun e=>hnAS a ha (by rw [e];exact ⟨[10,10],rfl⟩)
     ·exact kB1.setRefs _
     ·show (if j=10::10::q then _ else m1.hp j)=_;rw [if_neg (fun e=>hj (by rw [e];exact ⟨[10,10],rfl⟩))];exact ho1 j hj
    ·rw [if_neg (by simpa using c1)] at hca;obtain ⟨y,hy,hca⟩:=aA hca;obtain ⟨e,he,hca⟩:=aA hca;refine aV ?_
     try simp only [aL]
     repeat refine aF ?_
     refine aN fun K hK=>?_;simp only [go_sem,seval,mK,oL,tS,Ef,true_and,qU,CY,AQ,jK,lD,e0,e1];refine SC.by_ (fF n rn a1 a2 x _ hy _ _ _ P0 P1 z W A AS LS (by simp only [go_sem,↓reduceIte,mK,oL,tS,BB,and_true,fC u0,fC u1,hc0,hc1,v0,kA1,hn01,hn10,gl2])) ?_;simp only [go_sem,seval,tS,BB];apply hK
     repeat refine aF ?_
     refine aN fun K hK=>?_;simp only [go_sem,seval,mK,oL,tS,Ef,e0];refine SC.by_ (cY y.2 _ he _ _ _ P0 z (by simp only [go_sem,↓reduceIte,mK,oL,tS,BB,and_true])) ?_;simp only [go_sem,Nat.reduceAdd];apply hK;refine Fd e (fun c2=>?_) (fun c2=>?_)
     ·rw [if_pos c2] at hca;obtain rfl:=bV hca;simp only [FW] at h;obtain rfl:=bV h;refine aQ ?_
      try simp only [aU,bK]
      refine ⟨by first | exact .inl rfl | exact .inl trivial,?_⟩;simp only [go_sem,oL,true_and,and_true];have hh:xA q m.hp m1.hp=sN m.hp W a1.cC AS a2:=DQ hfr hnW hnAS fun j hj=>by rw [hkF.same];exact ho1 j hj
      simp only [go_sem,tS,BB,eU u0,aO,bk,hh,oE hb1,HX]
     ·rw [if_neg (by simpa using c2)] at hca;obtain ⟨t,ht,hca⟩:=aA hca;refine aV ?_
      try simp only [aL]
      repeat refine aF ?_
      refine fB fun K hK=>?_;simp only [go_sem,seval,mK,oL,tS,Ef,e6];refine SC.mono (kF to (a2++o.2) (v:Int) y.1 _ ht _ _ _ (12::10::q) (6::10::q) (10::10::q) (AS++AS2) (LS++o.2.map List.length) (by simp only [go_sem,seval,mK,oL,and_true,np0',hct,kB1])) ?_;rintro _ _ ⟨rfl,rfl,kp⟩;simp only [go_sem,Nat.reduceAdd];apply hK;simp only [aL,aS];refine aN fun K hK=>?_;simp only [go_sem,seval,e23];apply hK
      have te:t.2=a2++o.2:=by
       unfold dN at ht
       split at ht
       ·obtain ⟨_,_,ht⟩:=aA ht;obtain rfl:=bV ht;rfl
       ·obtain rfl:=bV ht;rfl
      rw [te] at kp;refine ⟨l.length,xH _,l,v+1,y.2,t.1,rfl,hl2,by omega,hca,kp.1.trans htf,?_⟩
      have ho2:∀j,¬ q <:+ j->sN m1.hp (6::10::q) t.1.cC (AS++AS2) (a2++o.2) j=m1.hp j:=fun j hj=>by
       have:=MR (ws:=a1.cC) (ws':=t.1.cC) (hs:=a2) (hs':=a2++o.2) (m0:=m1.hp) (h1:=m1.hp) (AS2:=AS2) (W':=6::10::q) kA1 hnW hnAS ⟨[6,10],rfl⟩ hu2 (fun _ _=>rfl) hj;rw [this,List.take_left' kA1.len.symm,kA1.same]
      refine ⟨?_,?_,?_,?_,?_,?_,?_,?_,?_,?_,?_,?_,?_,?_,?_,?_,fun j hj=>?_⟩
      all_goals try simp only [go_sem,seval,tS,BB,and_true,e0,e1,e5,e6,e21,e22,hw,HX,aH.C_eq,fC u0,fC u1,np0,np1,hc1,hcs,gl1,bk,hn10,aO,iH,eU u0,NM,vP,te]
      ·exact kA1.frame (ho2 W hnW) (ho2 A hnA) fun a ha=>ho2 a (hnAS a ha)
      ·exact nK.upk kB1 kp
      ·exact (ho2 j hj).trans (ho1 j hj)
end Go.Proofs.YtncembphlfbgoaaGreatDoor.Abs
