/- Lemmas of ours. -/
import Derived.Test.YtncembphlfbgoaaGreatDoorIPGIw0
import Derived.Test.YtncembphlfbgoaaGreatDoorIPIop
namespace Go.Proofs.YtncembphlfbgoaaGreatDoor.Abs
open Go.RowKit Tryz
open IntKind (i64 u32 u64 u8)
set_option linter.unusedVariables false
set_option maxRecDepth 10000
def Iz (x:aE):List V:=(aN.C x.p_)++[.lit (.int .i64 x.eB),.lit (.int .i64 x.fQ),.lit (.int .i64 x.e_),.list .self (x.bT.map bC.C)]
def blockC (f:aE->aJ->(List (List Int))->(List aH)->Option (aE × aJ × (List (List Int)))):Prop:=∀a0 a1 a2 a3 r,f a0 a1 a2 a3=some r->∀(q:Pa) (m:M) (vs:List V) (P0 P1:Pa) (z:Nat) (W A:Pa) (AS:List Pa) (LS:List Nat),vs.map V.weak1=[.ptr P0 0,.ptr P1 0,.list .none (a3.map aH.C)]/\m.blk P0=some (Iz a0)/\m.blk P1=some (Cx W A a1)/\m.ver P0 4=z+a0.bT.length/\nV m.hp W A AS LS a1.cC a1.cE a2/\(P0=P1)=False/\(P1=P0)=False/\m.gl 3=.eptr [(cA bY.C dR)] 0 0->SC prog 47 vs q m (fun v m'=>v=.tup []/\m'=(m.fr P0 P1 (Iz r.1) (z+r.1.bT.length) (Cx W A r.2.1) (tF m.hp W r.2.1.cC AS r.2.2))/\eJ a1 a2 r.2.1 r.2.2)
def callC (f:aE->aJ->(List (List Int))->aH->Option (aE × aJ × (List (List Int)))):Prop:=∀a0 a1 a2 a3 r,f a0 a1 a2 a3=some r->∀(q:Pa) (m:M) (vs:List V) (P0 P1:Pa) (z:Nat) (W A:Pa) (AS:List Pa) (LS:List Nat),vs.map V.weak1=[.ptr P0 0,.ptr P1 0,.agg ((aH.C a3))]/\m.blk P0=some (Iz a0)/\m.blk P1=some (Cx W A a1)/\m.ver P0 4=z+a0.bT.length/\nV m.hp W A AS LS a1.cC a1.cE a2/\(P0=P1)=False/\(P1=P0)=False/\m.gl 3=.eptr [(cA bY.C dR)] 0 0->SC prog 123 vs q m (fun v m'=>v=.tup []/\m'=(m.fr P0 P1 (Iz r.1) (z+r.1.bT.length) (Cx W A r.2.1) (tF m.hp W r.2.1.cC AS r.2.2))/\eJ a1 a2 r.2.1 r.2.2)
theorem Pv {IA} (hrec:blockC IA) (n:Nat):callC (dT IA n):=by
 rintro a0 a1 a2 a3 r h q m vs P0 P1 z W A AS LS ⟨hv,hmP0,hmP1,hvrP0,hkF,hn01,hn10,hg⟩;refine SC.wv hv ?_;refine SC.apart hmP0 fun u0=>?_;refine SC.apart hmP1 fun u1=>?_;refine SC.freshH fun hfr=>?_;refine SC.hpq ?_;refine eD func123 call123 ntmps123 results123 ?_;have hnW:¬ q <:+ W:=fun e=>by have:=hfr W e;rw [hkF.w] at this;cases this
 have hnA:¬ q <:+ A:=fun e=>by have:=hfr A e;rw [hkF.a] at this;cases this
 have hnAS:∀a ∈ AS,¬ q <:+ a:=fun a ha e=>by
  obtain ⟨i,l,h1,h2⟩:=hkF.find ha;have:=hfr a e;rw [hkF.gB i a l h1 h2] at this;cases this
 have np0:(P0=12::10::q)=False:=eq_false fun e=>u0 (by rw [e];exact ⟨[12,10],rfl⟩);have np0':(12::10::q=P0)=False:=eq_false fun e=>u0 (by rw [←e];exact ⟨[12,10],rfl⟩);have np1:(P1=12::10::q)=False:=eq_false fun e=>u1 (by rw [e];exact ⟨[12,10],rfl⟩);have np1':(12::10::q=P1)=False:=eq_false fun e=>u1 (by rw [←e];exact ⟨[12,10],rfl⟩);have hb0:=hmP0;have hb1:=hmP1;simp only [go_sem,uG,BO,Iz] at hb0 hb1;unfold dT at h;obtain ⟨hlm,h⟩:=bP h;obtain ⟨f,hf,h⟩:=aA h;obtain ⟨i0,i1,i2⟩:=aZ hf;obtain ⟨o,ho,h⟩:=aA h;obtain ⟨cr,hcr,h⟩:=aA h;refine sW ?_;simp only [go_sem,lQ,oU,true_and];refine aF (BM [0,1,3,7,15,0,32,127,255,511,1023] 9 [] rfl (by kernel_rfl) fun K hK=>?_);rw [show List.range 9=[0,1,2,3,4,5,6,7,8] from rfl];simp only [go_sem,seval,lQ,oU,Ej,uG,Et,true_and,zM,qU,Dm,Bd,jC,lA,sY,yH,implies_true,gZ u0,hb0,i0,i1,i2];refine SC.mono (Nm ho _ _ _ AS LS (by rw [hkF.len]) (by rw [hkF.ls,sY]) (by simp only [go_sem,lQ,oU,aR.C_eq])) ?_;rintro _ _ ⟨AS2,h',rfl,rfl,hO⟩;simp only [go_sem,seval,true_and,zM,qU];apply hK;simp only [aK];have hnq:∀ {i:Pa},¬ q <:+ i->¬ (10::q) <:+ i:=fun hi e=>hi ((Nf _ _).trans e);have kB:=HP.hB (ws:=a1.cC) (rs:=a1.cE) (hs:=a2) hkF (fun a ha=>hnq (hnAS a ha)) hO;have kA:nV h' W A AS LS a1.cC a1.cE a2:=hkF.frame (hO.out _ (hnq hnW)) (hO.out _ (hnq hnA)) fun a ha=>hO.out _ (hnq (hnAS a ha))
 have hu2:∀a ∈ AS2,q <:+ a:=fun a ha=>by
  obtain ⟨j,i,rfl⟩:=hO.un a ha;exact ⟨[j,i,21,10],rfl⟩
 have hfo:o.1.f_=f:=by
  unfold zC at ho;obtain ⟨_,ho⟩:=bP ho;obtain ⟨_,_,ho⟩:=aA ho;obtain rfl:=bO ho;rfl
 refine aF (sW ?_);simp only [go_sem,seval,zM,qU,sY];refine bM ?_
 refine DT (fun c E' m'=>∃(l:List aG) (v:Nat) (rn:aE) (to:aJ),c=l.length/\a3.aM.drop v=l/\v<=a3.aM.length/\rJ n a1 a2 o.2 l v rn to=some cr/\to.f_=f /\ 
  E' 0=.ptr P0 0/\E' 1=.ptr P1 0/\E' 5=.ptr (0::q) 0/\E' 6=.ptr (12::10::q) 0/\E' 21=.list .none (a3.aM.map aG.C)/\E' 22=.lit (.int .i64 (a3.aM.length:Int))/\E' 23=.lit (.int .i64 (v:Int)) /\ 
  m'.blk P0=some (Iz rn)/\m'.ver P0 4=z+rn.bT.length/\m'.blk P1=some (Cx W A a1)/\m'.blk (0::q)=some (aH.C a3)/\m'.blk (12::10::q)=some (Cx (6::10::q) (10::10::q) to)/\m'.gl=m.gl/\m.back q m'=(m.setv P0 4 (Iz rn) (z+rn.bT.length)).seth m'.hp ∧
  nV m'.hp W A AS LS a1.cC a1.cE a2/\nV m'.hp (6::10::q) (10::10::q) (AS++AS2) (LS++o.2.map List.length) to.cC to.cE (a2++o.2)/\∀i,¬ q <:+ i->m'.hp i=m.hp i) a3.aM.length ?_ ?_
 ·refine ⟨a3.aM,0,a0,o.1,rfl,rfl,Kh _,hcr,hfo,?_⟩;refine ⟨?_,?_,?_,?_,?_,?_,?_,?_,?_,?_,?_,?_,?_,?_,?_,?_,fun i hi=>?_⟩
  all_goals try simp only [go_sem,seval,uG,BO,Iz,aH.C_eq,gZ u0,gZ u1,np0,np1,hb0,hb1,hvrP0,bF,gQ,bK,lM hvrP0,nD hb0,kA,kB]
  exact hO.out i (hnq hi)
 ·rintro i c E1 m1 ⟨l,v,rn,to,rfl,hl,hvl,hca,htf,e0,e1,e5,e6,e21,e22,e23,b0,v0,b1,bs,bt,gl1,bk,kA1,kB1,ho1⟩ _;have hc0:=b0;have hc1:=b1;have hcs:=bs;have hct:=bt;simp only [go_sem,uG,BO,Iz,aH.C_eq] at hc0 hc1 hcs hct;have gl2:m1.gl 3=_:=(congrFun gl1 _).trans hg;refine aL ?_;refine aF ?_;cases l with
  | nil=>
    have hvv:¬ v<a3.aM.length:=by
     have:=congrArg List.length hl;simp only [HR,lA] at this;omega
    refine iF false (by simp only [go_sem,↓reduceIte];exact congrArg (fun b=>V.lit (.bool b)) (xdo (by omega))) ?_;simp only [↓reduceIte,yI];refine dQ ?_
    try simp only [bZ,bR,↓reduceIte,aK]
    rw [rJ] at hca;obtain rfl:=bO hca;simp only [Es] at h;obtain ⟨b,hb,h⟩:=aA h;obtain ⟨e,he,h⟩:=aA h
    repeat refine aF ?_
    refine aP fun K hK=>?_;simp only [go_sem,seval,lQ,oU,uG,Et,zM,qU,e0,e6,hct];refine SC.mono (hrec rn to (a2++o.2) to.f_.eK _ hb _ _ _ P0 (12::10::q) z (6::10::q) (10::10::q) (AS++AS2) (LS++o.2.map List.length) (by simp only [go_sem,lQ,oU,uG,BO,and_true,Iz,np0,np0',hc0,hct,v0,kB1,gl2])) ?_;rintro _ _ ⟨rfl,rfl,kp⟩;simp only [go_sem,Nat.reduceAdd];apply hK
    repeat refine aF ?_
    refine aP fun K hK=>?_;simp only [go_sem,seval,lQ,oU,uG,Et,e0];refine SC.by_ (cW b.1 _ he _ _ _ P0 z (by simp only [go_sem,↓reduceIte,lQ,oU,uG,BO,and_true,Iz])) ?_;simp only [go_sem,Nat.reduceAdd];apply hK
    have hout:∀i,¬ q <:+ i->tF m1.hp (6::10::q) b.2.1.cC (AS++AS2) b.2.2 i=tF m.hp W a1.cC AS (b.2.2.take a2.length) i:=fun i hi=>by
     rw [Nv hkF hnW hnAS (show q <:+ 6::10::q from ⟨[6,10],rfl⟩) hu2 ho1 hi,hkF.len]
    have hqP:q <:+ 12::10::q:=⟨[12,10],rfl⟩;have hkeep:eJ a1 a2 a1 (b.2.2.take a2.length):=⟨rfl,rfl,rfl,by rw [List.map_take,kp.2.2.2,HS,List.take_left' (by rw [sY])]⟩;have hh:xK q m.hp (tF m1.hp (6::10::q) b.2.1.cC (AS++AS2) b.2.2)=tF m.hp W a1.cC AS (b.2.2.take a2.length):=Ec hfr hnW hnAS hout;refine Fq e (fun c2=>?_) (fun c2=>?_)
    ·rw [if_pos c2] at h;obtain rfl:=bO h;refine aO ?_
     try simp only [aT]
     refine ⟨by first | exact .inl rfl | exact .inl trivial,?_⟩;have hh:xK q m.hp (tF m1.hp (6::10::q) b.2.1.cC (AS++AS2) b.2.2)=tF m.hp W a1.cC AS (b.2.2.take a2.length):=Ec hfr hnW hnAS hout;simp only [go_sem,oU,uG,BO,true_and,EO u0 hqP,bk,hh,oO hb1,Iz];exact hkeep
    ·rw [if_neg (by simpa using c2)] at h;refine aU ?_
     try simp only [aK]
     repeat refine aF ?_
     refine aP fun K hK=>?_;simp only [go_sem,seval,zM,qU,e5,gZ u0,hcs];apply hK;refine Fq (a3.lO == -2) (fun c3=>?_) (fun c3=>?_)
     ·rw [if_pos (by simpa using c3)] at h;obtain rfl:=bO h
      repeat refine aF ?_
      refine aP fun K hK=>?_;simp only [go_sem,seval,true_and,zM,qU,EB,FZ,jC,lA,e1,e6,np1,np0',hn10,hc1];apply hK;refine aO ?_
      try simp only [aT]
      refine ⟨by first | exact .inl rfl | exact .inl trivial,?_⟩;simp only [go_sem,oU,uG,BO,true_and,dG u1,EO u0 hqP,bk,hh,oO hb1,Iz,Cw hn10];exact eJ.res hkeep
     ·rw [if_neg (by simpa using c3)] at h;obtain ⟨p,hp,h⟩:=aA h;obtain rfl:=bO h;refine aU ?_
      refine eC (o0 [0,1,2,3,4,5,6,7]) 38 fun K hK=>?_;simp only [go_sem,seval,lQ,oU,zM,qU,Bd,e1,e5,e6,gZ u0,np0',hcs]
      have hAS3:∀i ∈ W::A::AS,¬ q <:+ i:=fun i hi=>by
       rcases vA.1 hi with rfl | hi
       ·exact hnW
       ·rcases vA.1 hi with rfl | hi
        ·exact hnA
        ·exact hnAS i hi
      have k3:nV (tF m1.hp (6::10::q) b.2.1.cC (AS++AS2) b.2.2) W A AS LS a1.cC a1.cE (b.2.2.take a2.length):=by
       have:=nV.up (ws':=a1.cC) (hs':=b.2.2.take a2.length) hkF hkeep.2.2.2;exact this.frame (hout W hnW) (hout A hnA) fun a ha=>hout a (hnAS a ha)
      refine vN ((kO a1 (b.2.2.take a2.length) a3.lO b.2.1.oP _ hp _ _ _ P1 W A AS LS (by simp only [go_sem,↓reduceIte,lQ,oU,uG,Et,and_true,np1,hn10,hc1,k3])).mono fun _ _ h=>⟨h.1,h.2.1⟩) rfl ?_;simp only [go_sem];apply hK;simp only [reduceCtorEq];refine ⟨by first | exact .inr rfl | exact .inr trivial,?_⟩
      have kp2:eJ a1 (b.2.2.take a2.length) p.1 p.2:=by
       unfold cZ at hp
       split at hp
       ·obtain ⟨_,_,hp⟩:=aA hp;obtain rfl:=bO hp;exact eJ.setW eJ.refl
       ·obtain rfl:=bO hp;exact eJ.refl
      have hh2:xK q m.hp (tF (tF m1.hp (6::10::q) b.2.1.cC (AS++AS2) b.2.2) W p.1.cC AS p.2)=tF m.hp W p.1.cC AS p.2:=Ec hfr hnW hnAS fun i hi=>by
       show (if i=W then _ else if i ∈ AS then _ else tF m1.hp _ _ _ _ i)=if i=W then _ else if i ∈ AS then _ else m.hp i
       by_cases e1:i=W
       ·rw [if_pos e1,if_pos e1]
       ·rw [if_neg e1,if_neg e1]
        by_cases e2:i ∈ AS
        ·rw [if_pos e2,if_pos e2]
        ·rw [if_neg e2,if_neg e2,hout i hi];show (if i=W then _ else if i ∈ AS then _ else m.hp i)=_;rw [if_neg e1,if_neg e2]
      simp only [go_sem,oU,uG,BO,true_and,dG u1,gQ,EO u0 hqP,bk,hh2,oO hb1,Iz,Cw hn10];exact hkeep.trans kp2
  | cons x l=>
    have hvb:v<a3.aM.length:=by
     have:=congrArg List.length hl;simp only [HR,jC] at this;omega
    have hx:a3.aM[v]? = some x:=by
     have:=congrArg List.head? hl;simpa [Qh] using this
    have hl2:a3.aM.drop (v+1)=l:=by
     have:=congrArg List.tail hl;simpa using this
    have g1:(0:Int)<=(v:Int):=xdt _;have g2:(v:Int)<(a3.aM.length:Int):=by omega
    have hw:i64.wrap ((v:Int)+1)=((v+1:Nat):Int):=by rw [fG (by omega) (by omega)];omega
    refine iF true (by simp only [go_sem,↓reduceIte];exact congrArg (fun b=>V.lit (.bool b)) (DU g2)) ?_;simp only [↓reduceIte];refine aU ?_
    refine aF (bM (sW ?_));simp only [go_sem,seval,lQ,oU,Ej,true_and,qU,Dm,Bd,EB,FZ,jC,lA,sY,yH,implies_true,e21,e23,g1,g2,yG,hx];refine aF (sW ?_);simp only [go_sem,seval,zM,qU];rw [rJ] at hca;refine Fq (x.cM == 4) (fun c1=>?_) (fun c1=>?_)
    ·rw [if_pos (by simpa using c1)] at hca;obtain ⟨k,hk,hca⟩:=aA hca;obtain ⟨⟨s1,s2,s3⟩,hca⟩:=bP hca;obtain ⟨j0,j1,j2⟩:=aZ hk;have hkl:k.toNat<a2.length:=by omega
     obtain ⟨a,d1,d2,d3,_,_⟩:=nV.get kA1 s1 (tA hkl);obtain ⟨w1,d4⟩:=sC (f:=xL AS LS) j2;have s4:(v:Int)<(to.cE.length:Int):=by omega
     have s5:v+1<=to.cE.length:=by omega
     have hal:LS.length=AS.length:=by rw [kA1.ls,sY,kA1.len]
     have hset:((to.cE.map (xL (AS++AS2) (LS++o.2.map List.length))).set v (.vec a 1 a2[k.toNat].length))=(to.cE.set v k).map (xL (AS++AS2) (LS++o.2.map List.length)):=by
      rw [PP,Pw (by rw [kA1.len];exact s2) hal,d1]
     refine aF (eC (o0 [0,1,2,3,4,5,6,7,8,9,10,11,12,13,14]) 25 fun K hK=>?_);simp only [go_sem,seval,lQ,oU,true_and,zM,qU,Bd,jC,lA,sY,gZ u1,e1,e6,hc1,hct,kA1.a,kB1.a,j0,j1,d1,d4,g1,s4,s5,yG,hset];apply hK;refine dQ ?_
     try simp only [bZ,bR,↓reduceIte,aK]
     refine cH ?_;refine ⟨l.length,xQ _,l,v+1,rn,{ to with cE:=to.cE.set v k },rfl,hl2,by omega,hca,htf,?_⟩;refine ⟨?_,?_,?_,?_,?_,?_,?_,?_,?_,?_,?_,?_,?_,?_,?_,?_,fun j hj=>?_⟩
     all_goals try simp only [go_sem,seval,uG,BO,e0,e1,e5,e6,e21,e22,hw,Iz,aH.C_eq,gZ u0,gZ u1,hc0,hc1,hcs,hct,v0,gl1,bk,GI,bF,gQ,qH]
     ·exact kA1.frame (if_neg fun e=>hnW (by rw [e];exact ⟨[10,10],rfl⟩)) (if_neg fun e=>hnA (by rw [e];exact ⟨[10,10],rfl⟩)) fun a ha=>if_neg fun e=>hnAS a ha (by rw [e];exact ⟨[10,10],rfl⟩)
     ·exact kB1.setRefs _
     ·show (if j=10::10::q then _ else m1.hp j)=_;rw [if_neg (fun e=>hj (by rw [e];exact ⟨[10,10],rfl⟩))];exact ho1 j hj
    ·rw [if_neg (by simpa using c1)] at hca;obtain ⟨y,hy,hca⟩:=aA hca;obtain ⟨e,he,hca⟩:=aA hca;refine aU ?_
     try simp only [aK]
     repeat refine aF ?_
     refine aP fun K hK=>?_;simp only [go_sem,seval,lQ,oU,uG,Et,true_and,qU,Dm,Bd,jC,lA,e0,e1];refine SC.by_ (fH n rn a1 a2 x _ hy _ _ _ P0 P1 z W A AS LS (by simp only [go_sem,↓reduceIte,lQ,oU,uG,BO,and_true,gZ u0,gZ u1,hc0,hc1,v0,kA1,hn01,hn10,gl2])) ?_;simp only [go_sem,seval,uG,BO];apply hK
     repeat refine aF ?_
     refine aP fun K hK=>?_;simp only [go_sem,seval,lQ,oU,uG,Et,e0];refine SC.by_ (cW y.2 _ he _ _ _ P0 z (by simp only [go_sem,↓reduceIte,lQ,oU,uG,BO,and_true])) ?_;simp only [go_sem,Nat.reduceAdd];apply hK;refine Fq e (fun c2=>?_) (fun c2=>?_)
     ·rw [if_pos c2] at hca;obtain rfl:=bO hca;simp only [GH] at h;obtain rfl:=bO h;refine aO ?_
      try simp only [aT,bI]
      refine ⟨by first | exact .inl rfl | exact .inl trivial,?_⟩;simp only [go_sem,oU,true_and,and_true];have hh:xK q m.hp m1.hp=tF m.hp W a1.cC AS a2:=Ec hfr hnW hnAS fun j hj=>by rw [hkF.same];exact ho1 j hj
      simp only [go_sem,uG,BO,eX u0,bF,bk,hh,oO hb1,Iz]
     ·rw [if_neg (by simpa using c2)] at hca;obtain ⟨t,ht,hca⟩:=aA hca;refine aU ?_
      try simp only [aK]
      repeat refine aF ?_
      refine eR fun K hK=>?_;simp only [go_sem,seval,lQ,oU,uG,Et,e6];refine SC.mono (kO to (a2++o.2) (v:Int) y.1 _ ht _ _ _ (12::10::q) (6::10::q) (10::10::q) (AS++AS2) (LS++o.2.map List.length) (by simp only [go_sem,seval,lQ,oU,and_true,np0',hct,kB1])) ?_;rintro _ _ ⟨rfl,rfl,kp⟩;simp only [go_sem,Nat.reduceAdd];apply hK;simp only [aK,aQ];refine cH ?_
      have te:t.2=a2++o.2:=by
       unfold cZ at ht
       split at ht
       ·obtain ⟨_,_,ht⟩:=aA ht;obtain rfl:=bO ht;rfl
       ·obtain rfl:=bO ht;rfl
      rw [te] at kp;refine ⟨l.length,xQ _,l,v+1,y.2,t.1,rfl,hl2,by omega,hca,kp.1.trans htf,?_⟩
      have ho2:∀j,¬ q <:+ j->tF m1.hp (6::10::q) t.1.cC (AS++AS2) (a2++o.2) j=m1.hp j:=fun j hj=>by
       have:=Nv (ws:=a1.cC) (ws':=t.1.cC) (hs:=a2) (hs':=a2++o.2) (m0:=m1.hp) (h1:=m1.hp) (AS2:=AS2) (W':=6::10::q) kA1 hnW hnAS ⟨[6,10],rfl⟩ hu2 (fun _ _=>rfl) hj;rw [this,List.take_left' kA1.len.symm,kA1.same]
      refine ⟨?_,?_,?_,?_,?_,?_,?_,?_,?_,?_,?_,?_,?_,?_,?_,?_,fun j hj=>?_⟩
      all_goals try simp only [go_sem,seval,uG,BO,and_true,e0,e1,e5,e6,e21,e22,hw,Iz,aH.C_eq,gZ u0,gZ u1,np0,np1,hc1,hcs,gl1,bk,hn10,bF,gQ,eX u0,Ou,wB,te]
      ·exact kA1.frame (ho2 W hnW) (ho2 A hnA) fun a ha=>ho2 a (hnAS a ha)
      ·exact nV.upk kB1 kp
      ·exact (ho2 j hj).trans (ho1 j hj)
end Go.Proofs.YtncembphlfbgoaaGreatDoor.Abs
