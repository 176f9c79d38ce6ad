import Derived.Test.YtnheknbibdgglaaGreatDoorMGIw0
import Derived.Test.YtnheknbibdgglaaGreatDoorMIop
namespace Go.Proofs.YtnheknbibdgglaaGreatDoor.Abs
open Go.RowKit Tryz
open IntKind (i64 u32 u64 u8)
set_option linter.all false
set_option maxRecDepth 10000
def KY (x:aE):List V:=(aK.C x.p_)++[.lit (.int .i64 x.dO),.lit (.int .i64 x.cN),.lit (.int .i64 x.e_),.list .self (x.bT.map bE.C)]
def blockC (f:aE->aI->(List (List Int))->(List aA)->Option (aE × aI × (List (List Int)))):Prop:=∀a0 a1 a2 a3 r,f a0 a1 a2 a3=some r->∀(q:Pa) (m:M) (vs:List V) (P0 P1:Pa) (z:Nat) (W A:Pa) (AS:List Pa) (LS:List Nat),vs.map V.weak1=[.ptr P0 0,.ptr P1 0,.list .none (a3.map aA.C)]/\m.blk P0=some (KY a0)/\m.blk P1=some (Eo W A a1)/\m.ver P0 4=z+a0.bT.length/\oV m.hp W A AS LS a1.bP a1.aX a2/\(P0=P1)=False/\(P1=P0)=False/\m.gl 3=.eptr [(cA bY.C eY)] 0 0->SC prog 34 vs q m (λv m'=>v=.tup []/\m'=(m.fr P0 P1 (KY r.1) (z+r.1.bT.length) (Eo W A r.2.1) (uP m.hp W r.2.1.bP AS r.2.2))/\eW a1 a2 r.2.1 r.2.2)
def callC (f:aE->aI->(List (List Int))->aA->Option (aE × aI × (List (List Int)))):Prop:=∀a0 a1 a2 a3 r,f a0 a1 a2 a3=some r->∀(q:Pa) (m:M) (vs:List V) (P0 P1:Pa) (z:Nat) (W A:Pa) (AS:List Pa) (LS:List Nat),vs.map V.weak1=[.ptr P0 0,.ptr P1 0,.agg ((aA.C a3))]/\m.blk P0=some (KY a0)/\m.blk P1=some (Eo W A a1)/\m.ver P0 4=z+a0.bT.length/\oV m.hp W A AS LS a1.bP a1.aX a2/\(P0=P1)=False/\(P1=P0)=False/\m.gl 3=.eptr [(cA bY.C eY)] 0 0->SC prog 100 vs q m (λv m'=>v=.tup []/\m'=(m.fr P0 P1 (KY r.1) (z+r.1.bT.length) (Eo W A r.2.1) (uP m.hp W r.2.1.bP AS r.2.2))/\eW a1 a2 r.2.1 r.2.2)
theorem Sq {KZ} (hrec:blockC KZ) (n:Nat):callC (dZ KZ n):=by
 rintro a0 a1 a2 a3 r h q m vs P0 P1 z W A AS LS ⟨hv,hmP0,hmP1,o0,hkF,hn01,hn10,hg⟩;refine SC.wv hv ?_;refine SC.apart hmP0 λu0=>?_;refine SC.apart hmP1 λu1=>?_;refine SC.freshH λhfr=>?_;refine SC.hpq ?_;refine oE func100 call100 ntmps100 results100 ?_;have hnW:¬ q <:+ W:=λe=>by have:=hfr W e;rw [hkF.w] at this;cases this
 have hnA:¬ q <:+ A:=λe=>by have:=hfr A e;rw [hkF.a] at this;cases this
 have hnAS:∀a ∈ AS,¬ q <:+ a:=λa ha e=>by
  obtain ⟨i,l,h1,h2⟩:=hkF.find ha;have:=hfr a e;rw [hkF.fU i a l h1 h2] at this;cases this
 have np0:(P0=12::10::q)=False:=eq_false λe=>u0 (by rw [e];exact ⟨[12,10],rfl⟩);have np0':(12::10::q=P0)=False:=eq_false λe=>u0 (by rw [←e];exact ⟨[12,10],rfl⟩);have np1:(P1=12::10::q)=False:=eq_false λe=>u1 (by rw [e];exact ⟨[12,10],rfl⟩);have np1':(12::10::q=P1)=False:=eq_false λe=>u1 (by rw [←e];exact ⟨[12,10],rfl⟩);have hb0:=hmP0;have hb1:=hmP1;simp only [go_sem,wN,EP,KY] at hb0 hb1;unfold dZ at h;obtain ⟨hlm,h⟩:=bN h;obtain ⟨f,hf,h⟩:=aD h;obtain ⟨i0,i1,i2⟩:=aY hf;obtain ⟨o,ho,h⟩:=aD h;obtain ⟨cr,hcr,h⟩:=aD h;refine xN ?_;simp only [go_sem,oC,qA,true_and];refine aN (eV λK hK=>?_);simp only [go_sem,seval,oC,qA,FI,wN,ER,true_and,Bu,sR,Gq,Gp,jJ,mO,wM,AJ,implies_true,jZ u0,hb0,i0,i1,i2];refine SC.mono (Qf ho _ _ _ AS LS (by rw [hkF.len]) (by rw [hkF.ls,wM]) (by simp only [go_sem,oC,qA,aP.C_eq])) ?_;rintro _ _ ⟨AS2,h',rfl,rfl,hO⟩;simp only [go_sem,seval,true_and,jJ,mO];apply hK;simp only [aR];have hnq:∀ {i:Pa},¬ q <:+ i->¬ (10::q) <:+ i:=λhi e=>hi ((QU _ _).trans e);have kB:=Ke.hB (ws:=a1.bP) (rs:=a1.aX) (hs:=a2) hkF (λa ha=>hnq (hnAS a ha)) hO;have kA:oV h' W A AS LS a1.bP a1.aX a2:=hkF.frame (hO.out _ (hnq hnW)) (hO.out _ (hnq hnA)) λa ha=>hO.out _ (hnq (hnAS a ha))
 have hu2:∀a ∈ AS2,q <:+ a:=λa ha=>by
  obtain ⟨j,i,rfl⟩:=hO.un a ha;exact ⟨[j,i,21,10],rfl⟩
 have hfo:o.1.f_=f:=by
  unfold uF at ho;obtain ⟨_,ho⟩:=bN ho;obtain ⟨_,_,ho⟩:=aD ho;obtain rfl:=aZ ho;rfl
 refine aN (xN ?_);simp only [go_sem,seval,Bu,sR,wM];refine cK ?_
 refine FE (λc E' m'=>∃(l:List aF) (v:Nat) (rn:aE) (to:aI),c=l.length/\a3.aM.drop v=l/\v<=a3.aM.length/\mN n a1 a2 o.2 l v rn to=some cr/\to.f_=f /\ 
  E' 0=.ptr P0 0/\E' 1=.ptr P1 0/\E' 5=.ptr (0::q) 0/\E' 6=.ptr (12::10::q) 0/\E' 21=.list .none (a3.aM.map aF.C)/\E' 22=.lit (.int .i64 (a3.aM.length:Int))/\E' 23=.lit (.int .i64 (v:Int)) /\ 
  m'.blk P0=some (KY rn)/\m'.ver P0 4=z+rn.bT.length/\m'.blk P1=some (Eo W A a1)/\m'.blk (0::q)=some (aA.C a3)/\m'.blk (12::10::q)=some (Eo (6::10::q) (10::10::q) to)/\m'.gl=m.gl/\m.back q m'=(m.setv P0 4 (KY rn) (z+rn.bT.length)).seth m'.hp ∧
  oV m'.hp W A AS LS a1.bP a1.aX a2/\oV m'.hp (6::10::q) (10::10::q) (AS++AS2) (LS++o.2.map List.length) to.bP to.aX (a2++o.2)/\∀i,¬ q <:+ i->m'.hp i=m.hp i) a3.aM.length ?_ ?_
 ·refine ⟨a3.aM,0,a0,o.1,rfl,rfl,HI _,hcr,hfo,?_⟩;refine ⟨?_,?_,?_,?_,?_,?_,?_,?_,?_,?_,?_,?_,?_,?_,?_,?_,λi hi=>?_⟩
  all_goals try simp only [go_sem,seval,wN,EP,KY,aA.C_eq,jZ u0,jZ u1,np0,np1,hb0,hb1,o0,bB,jQ,bG,jY o0,pF hb0,kA,kB]
  exact hO.out i (hnq hi)
 ·rintro i c E1 m1 ⟨l,v,rn,to,rfl,hl,hvl,hca,htf,e0,e1,e5,e6,e21,e22,e23,b0,v0,b1,bs,bt,gl1,bk,kA1,kB1,ho1⟩ _;have hc0:=b0;have hc1:=b1;have hcs:=bs;have hct:=bt;simp only [go_sem,wN,EP,KY,aA.C_eq] at hc0 hc1 hcs hct;have gl2:m1.gl 3=_:=(congrFun gl1 _).trans hg;refine bC ?_;refine aN ?_;cases l with
  | nil=>
    have hvv:¬ v<a3.aM.length:=by
     have:=vJ List.length hl;simp only [HG,mO] at this;omega
    refine mA false (by simp only [go_sem,↓reduceIte];exact vJ (λb=>V.lit (.bool b)) (Om za)) ?_;simp only [↓reduceIte,Bt];refine gE ?_
    try simp only [cV,cM,↓reduceIte,aR]
    rw [mN] at hca;obtain rfl:=aZ hca;simp only [PQ] at h;obtain ⟨b,hb,h⟩:=aD h;obtain ⟨e,he,h⟩:=aD h
    repeat refine aN ?_
    refine bX λK hK=>?_;simp only [go_sem,seval,oC,qA,wN,ER,Bu,sR,e0,e6,hct];refine SC.mono (hrec rn to (a2++o.2) to.f_.bR _ hb _ _ _ P0 (12::10::q) z (6::10::q) (10::10::q) (AS++AS2) (LS++o.2.map List.length) (by simp only [go_sem,oC,qA,wN,EP,and_true,KY,np0,np0',hc0,hct,v0,kB1,gl2])) ?_;rintro _ _ ⟨rfl,rfl,kp⟩;simp only [go_sem,Nat.reduceAdd];apply hK
    repeat refine aN ?_
    refine bX λK hK=>?_;simp only [go_sem,seval,oC,qA,wN,ER,e0];refine SC.by_ (dC b.1 _ he _ _ _ P0 z (by simp only [go_sem,↓reduceIte,oC,qA,wN,EP,and_true,KY])) ?_;simp only [go_sem,Nat.reduceAdd];apply hK
    have hout:∀i,¬ q <:+ i->uP m1.hp (6::10::q) b.2.1.bP (AS++AS2) b.2.2 i=uP m.hp W a1.bP AS (b.2.2.take a2.length) i:=λi hi=>by
     rw [Qv hkF hnW hnAS (show q <:+ 6::10::q from ⟨[6,10],rfl⟩) hu2 ho1 hi,hkF.len]
    have hqP:q <:+ 12::10::q:=⟨[12,10],rfl⟩;have hkeep:eW a1 a2 a1 (b.2.2.take a2.length):=⟨rfl,rfl,rfl,by rw [List.map_take,kp.2.2.2,xds,List.take_left' (by rw [wM])]⟩;have hh:Ab q m.hp (uP m1.hp (6::10::q) b.2.1.bP (AS++AS2) b.2.2)=uP m.hp W a1.bP AS (b.2.2.take a2.length):=FZ hfr hnW hnAS hout;refine HA e (λc2=>?_) (λc2=>?_)
    ·rw [cG c2] at h;obtain rfl:=aZ h;refine cB ?_
     try simp only [cE]
     refine ⟨by first | exact .inl rfl | exact .inl trivial,?_⟩;have hh:Ab q m.hp (uP m1.hp (6::10::q) b.2.1.bP (AS++AS2) b.2.2)=uP m.hp W a1.bP AS (b.2.2.take a2.length):=FZ hfr hnW hnAS hout;simp only [go_sem,qA,wN,EP,true_and,GM u0 hqP,bk,hh,pO hb1,KY];exact hkeep
    ·rw [bU (by simpa using c2)] at h;refine bL ?_
     try simp only [aR]
     repeat refine aN ?_
     refine bX λK hK=>?_;simp only [go_sem,seval,Bu,sR,e5,jZ u0,hcs];apply hK;refine HA (a3.cZ == -2) (λc3=>?_) (λc3=>?_)
     ·rw [cG (by simpa using c3)] at h;obtain rfl:=aZ h
      repeat refine aN ?_
      refine bX λK hK=>?_;simp only [go_sem,seval,true_and,Bu,sR,GD,Ii,jJ,mO,e1,e6,np1,np0',hn10,hc1];apply hK;refine cB ?_
      try simp only [cE]
      refine ⟨by first | exact .inl rfl | exact .inl trivial,?_⟩;simp only [go_sem,qA,wN,EP,true_and,dW u1,GM u0 hqP,bk,hh,pO hb1,KY,En hn10];exact eW.res hkeep
     ·rw [bU (by simpa using c3)] at h;obtain ⟨p,hp,h⟩:=aD h;obtain rfl:=aZ h;refine bL ?_
      refine eV λK hK=>?_;simp only [go_sem,seval,oC,qA,wN,ER,Bu,sR,e1,e5,e6,jZ u0,np0',hcs]
      have hAS3:∀i ∈ W::A::AS,¬ q <:+ i:=λi hi=>by
       rcases Cj.1 hi with rfl | hi
       ·exact hnW
       ·rcases Cj.1 hi with rfl | hi
        ·exact hnA
        ·exact hnAS i hi
      have k3:oV (uP m1.hp (6::10::q) b.2.1.bP (AS++AS2) b.2.2) W A AS LS a1.bP a1.aX (b.2.2.take a2.length):=by
       have:=oV.up (ws':=a1.bP) (hs':=b.2.2.take a2.length) hkF hkeep.2.2.2;exact this.frame (hout W hnW) (hout A hnA) λa ha=>hout a (hnAS a ha)
      refine SC.by_ ((mB a1 (b.2.2.take a2.length) a3.cZ b.2.1.eX _ hp _ _ _ P1 W A AS LS (by simp only [go_sem,↓reduceIte,oC,qA,and_true,np1,hn10,hc1,k3])).mono λ_ _ h=>⟨h.1,h.2.1⟩) ?_;simp only [go_sem,Nat.reduceAdd,true_and,jJ,mO];apply hK;simp only [reduceCtorEq];refine ⟨by first | exact .inr rfl | exact .inr trivial,?_⟩
      have kp2:eW a1 (b.2.2.take a2.length) p.1 p.2:=by
       unfold cF at hp
       split at hp
       ·obtain ⟨_,_,hp⟩:=aD hp;obtain rfl:=aZ hp;exact eW.setW eW.refl
       ·obtain rfl:=aZ hp;exact eW.refl
      have hh2:Ab q m.hp (uP (uP m1.hp (6::10::q) b.2.1.bP (AS++AS2) b.2.2) W p.1.bP AS p.2)=uP m.hp W p.1.bP AS p.2:=FZ hfr hnW hnAS λi hi=>by
       show (if i=W then _ else if i ∈ AS then _ else uP m1.hp _ _ _ _ i)=if i=W then _ else if i ∈ AS then _ else m.hp i
       by_cases e1:i=W
       ·rw [cG e1,cG e1]
       ·rw [bU e1,bU e1]
        by_cases e2:i ∈ AS
        ·rw [cG e2,cG e2]
        ·rw [bU e2,bU e2,hout i hi];show (if i=W then _ else if i ∈ AS then _ else m.hp i)=_;rw [bU e1,bU e2]
      simp only [go_sem,qA,wN,EP,true_and,dW u1,jQ,GM u0 hqP,bk,hh2,pO hb1,KY,En hn10];exact hkeep.trans kp2
  | cons x l=>
    have hvb:v<a3.aM.length:=by
     have:=vJ List.length hl;simp only [HG,jJ] at this;omega
    have hx:a3.aM[v]? = some x:=by
     have:=vJ List.head? hl;simpa [Td] using this
    have hl2:a3.aM.drop (v+1)=l:=by
     have:=vJ List.tail hl;simpa using this
    have g1:(0:Int)<=(v:Int):=SR _;have g2:(v:Int)<(a3.aM.length:Int):=za
    have hw:i64.wrap ((v:Int)+1)=((v+1:Nat):Int):=by rw [fD za za];omega
    refine mA true (by simp only [go_sem,↓reduceIte];exact vJ (λb=>V.lit (.bool b)) (vO g2)) ?_;simp only [↓reduceIte];refine bL ?_
    refine aN (cK (xN ?_));simp only [go_sem,seval,oC,qA,FI,true_and,sR,Gq,Gp,GD,Ii,jJ,mO,wM,AJ,implies_true,e21,e23,g1,g2,wR,hx];refine aN (xN ?_);simp only [go_sem,seval,Bu,sR];rw [mN] at hca;refine HA (x.cP == 4) (λc1=>?_) (λc1=>?_)
    ·rw [cG (by simpa using c1)] at hca;obtain ⟨k,hk,hca⟩:=aD hca;obtain ⟨⟨s1,s2,s3⟩,hca⟩:=bN hca;obtain ⟨j0,j1,j2⟩:=aY hk;have hkl:k.toNat<a2.length:=za
     obtain ⟨a,d1,d2,d3,_,_⟩:=oV.get kA1 s1 (tS hkl);obtain ⟨w1,d4⟩:=tP (f:=Ac AS LS) j2;have s4:(v:Int)<(to.aX.length:Int):=za
     have s5:v+1<=to.aX.length:=za
     have hal:LS.length=AS.length:=by rw [kA1.ls,wM,kA1.len]
     have hset:((to.aX.map (Ac (AS++AS2) (LS++o.2.map List.length))).set v (.vec a 1 a2[k.toNat].length))=(to.aX.set v k).map (Ac (AS++AS2) (LS++o.2.map List.length)):=by
      rw [xdz,Sr (by rw [kA1.len];exact s2) hal,d1]
     refine aN (eV λK hK=>?_);simp only [go_sem,seval,oC,qA,true_and,Bu,sR,jJ,mO,wM,jZ u1,e1,e6,hc1,hct,kA1.a,kB1.a,j0,j1,d1,d4,g1,s4,s5,wR,hset];apply hK;refine gE ?_
     try simp only [cV,cM,↓reduceIte,aR]
     refine dY ?_;refine ⟨l.length,EO _,l,v+1,rn,{ to with aX:=to.aX.set v k },rfl,hl2,za,hca,htf,?_⟩;refine ⟨?_,?_,?_,?_,?_,?_,?_,?_,?_,?_,?_,?_,?_,?_,?_,?_,λj hj=>?_⟩
     all_goals try simp only [go_sem,seval,wN,EP,e0,e1,e5,e6,e21,e22,hw,KY,aA.C_eq,jZ u0,jZ u1,hc0,hc1,hcs,hct,v0,gl1,bk,yS,bB,jQ,gR]
     ·exact kA1.frame (bU λe=>hnW (by rw [e];exact ⟨[10,10],rfl⟩)) (bU λe=>hnA (by rw [e];exact ⟨[10,10],rfl⟩)) λa ha=>bU λe=>hnAS a ha (by rw [e];exact ⟨[10,10],rfl⟩)
     ·exact kB1.setRefs _
     ·show (if j=10::10::q then _ else m1.hp j)=_;rw [bU (λe=>hj (by rw [e];exact ⟨[10,10],rfl⟩))];exact ho1 j hj
    ·rw [bU (by simpa using c1)] at hca;obtain ⟨y,hy,hca⟩:=aD hca;obtain ⟨e,he,hca⟩:=aD hca;refine bL ?_
     try simp only [aR]
     repeat refine aN ?_
     refine bX λK hK=>?_;simp only [go_sem,seval,oC,qA,wN,ER,true_and,sR,Gq,Gp,jJ,mO,e0,e1];refine SC.by_ (gB n rn a1 a2 x _ hy _ _ _ P0 P1 z W A AS LS (by simp only [go_sem,↓reduceIte,oC,qA,wN,EP,and_true,jZ u0,jZ u1,hc0,hc1,v0,kA1,hn01,hn10,gl2])) ?_;simp only [go_sem,seval,wN,EP];apply hK
     repeat refine aN ?_
     refine bX λK hK=>?_;simp only [go_sem,seval,oC,qA,wN,ER,e0];refine SC.by_ (dC y.2 _ he _ _ _ P0 z (by simp only [go_sem,↓reduceIte,oC,qA,wN,EP,and_true])) ?_;simp only [go_sem,Nat.reduceAdd];apply hK;refine HA e (λc2=>?_) (λc2=>?_)
     ·rw [cG c2] at hca;obtain rfl:=aZ hca;simp only [SP] at h;obtain rfl:=aZ h;refine cB ?_
      try simp only [cE,gP]
      refine ⟨by first | exact .inl rfl | exact .inl trivial,?_⟩;simp only [go_sem,qA,true_and,and_true];have hh:Ab q m.hp m1.hp=uP m.hp W a1.bP AS a2:=FZ hfr hnW hnAS λj hj=>by rw [hkF.same];exact ho1 j hj
      simp only [go_sem,wN,EP,dR u0,bB,bk,hh,pO hb1,KY]
     ·rw [bU (by simpa using c2)] at hca;obtain ⟨t,ht,hca⟩:=aD hca;refine bL ?_
      try simp only [aR]
      repeat refine aN ?_
      refine kM λK hK=>?_;simp only [go_sem,seval,oC,qA,wN,ER,e6];refine SC.mono (mB to (a2++o.2) (v:Int) y.1 _ ht _ _ _ (12::10::q) (6::10::q) (10::10::q) (AS++AS2) (LS++o.2.map List.length) (by simp only [go_sem,seval,oC,qA,and_true,np0',hct,kB1])) ?_;rintro _ _ ⟨rfl,rfl,kp⟩;simp only [go_sem,Nat.reduceAdd];apply hK;simp only [aR,bJ];refine dY ?_
      have te:t.2=a2++o.2:=by
       unfold cF at ht
       split at ht
       ·obtain ⟨_,_,ht⟩:=aD ht;obtain rfl:=aZ ht;rfl
       ·obtain rfl:=aZ ht;rfl
      rw [te] at kp;refine ⟨l.length,EO _,l,v+1,y.2,t.1,rfl,hl2,za,hca,kp.1.trans htf,?_⟩
      have ho2:∀j,¬ q <:+ j->uP m1.hp (6::10::q) t.1.bP (AS++AS2) (a2++o.2) j=m1.hp j:=λj hj=>by
       have:=Qv (ws:=a1.bP) (ws':=t.1.bP) (hs:=a2) (hs':=a2++o.2) (m0:=m1.hp) (h1:=m1.hp) (AS2:=AS2) (W':=6::10::q) kA1 hnW hnAS ⟨[6,10],rfl⟩ hu2 (λ_ _=>rfl) hj;rw [this,List.take_left' kA1.len.symm,kA1.same]
      refine ⟨?_,?_,?_,?_,?_,?_,?_,?_,?_,?_,?_,?_,?_,?_,?_,?_,λj hj=>?_⟩
      all_goals try simp only [go_sem,seval,wN,EP,and_true,e0,e1,e5,e6,e21,e22,hw,KY,aA.C_eq,jZ u0,jZ u1,np0,np1,hc1,hcs,gl1,bk,hn10,bB,jQ,dR u0,Rs,yE,te]
      ·exact kA1.frame (ho2 W hnW) (ho2 A hnA) λa ha=>ho2 a (hnAS a ha)
      ·exact oV.upk kB1 kp
      ·exact (ho2 j hj).trans (ho1 j hj)
