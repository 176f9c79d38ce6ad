import Derived.Test.YtnheknbibdgglaaGreatDoorMIcall
namespace Go.Proofs.YtnheknbibdgglaaGreatDoor.Abs
open Go.RowKit Tryz
open IntKind (i64 u32 u64 u8)
set_option linter.all false
set_option maxRecDepth 10000
open Tryz
def kP (f:aE->aI->(List (List Int))->(List aA)->Option (aE × aI × (List (List Int)))):Prop:=∀a0 a1 a2 a3 r,f a0 a1 a2 a3=some r->∀(q:Pa) (m:M) (vs:List V) (P0:Pa) (P1:Pa) (zP0:Nat) (W A:Pa) (AS:List Pa) (LS:List Nat),vs.map V.weak1=[.ptr P0 0,.ptr P1 0,.list .none (a3.map aA.C)]/\m.blk P0=some ((aK.C a0.p_)++[.li a0.dO,.li a0.cN,.li a0.e_,.list .self (a0.bT.map bE.C)])/\m.blk P1=some (Eo W A a1)/\m.ver P0 4=zP0+a0.bT.length/\oV m.hp W A AS LS a1.bP a1.aX a2/\(P0=P1)=False/\(P1=P0)=False/\m.gl 3=.eptr [(cA bY.C eY)] 0 0->SC prog 34 vs q m (λv Y=>v=.tup []/\Y=(m.fr P0 P1 ((aK.C r.1.p_)++[.li r.1.dO,.li r.1.cN,.li r.1.e_,.list .self (r.1.bT.map bE.C)]) (zP0+r.1.bT.length) (Eo W A r.2.1) (uP m.hp W r.2.1.bP AS r.2.2))/\eW a1 a2 r.2.1 r.2.2)
def qJ (f:aE->aI->(List (List Int))->aA->Option (aE × aI × (List (List Int)))):Prop:=∀a0 a1 a2 a3 r,f a0 a1 a2 a3=some r->∀(q:Pa) (m:M) (vs:List V) (P0:Pa) (P1:Pa) (zP0:Nat) (W A:Pa) (AS:List Pa) (LS:List Nat),vs.map V.weak1=[.ptr P0 0,.ptr P1 0,.agg ((aA.C a3))]/\m.blk P0=some ((aK.C a0.p_)++[.li a0.dO,.li a0.cN,.li a0.e_,.list .self (a0.bT.map bE.C)])/\m.blk P1=some (Eo W A a1)/\m.ver P0 4=zP0+a0.bT.length/\oV m.hp W A AS LS a1.bP a1.aX a2/\(P0=P1)=False/\(P1=P0)=False/\m.gl 3=.eptr [(cA bY.C eY)] 0 0->SC prog 65 vs q m (λv Y=>v=.tup []/\Y=(m.fr P0 P1 ((aK.C r.1.p_)++[.li r.1.dO,.li r.1.cN,.li r.1.e_,.list .self (r.1.bT.map bE.C)]) (zP0+r.1.bT.length) (Eo W A r.2.1) (uP m.hp W r.2.1.bP AS r.2.2))/\eW a1 a2 r.2.1 r.2.2)
def sV (f:aE->aI->(List (List Int))->aA->Option (aE × aI × (List (List Int)))):Prop:=∀a0 a1 a2 a3 r,f a0 a1 a2 a3=some r->∀(q:Pa) (m:M) (vs:List V) (P0:Pa) (P1:Pa) (zP0:Nat) (W A:Pa) (AS:List Pa) (LS:List Nat),vs.map V.weak1=[.ptr P0 0,.ptr P1 0,.agg ((aA.C a3))]/\m.blk P0=some ((aK.C a0.p_)++[.li a0.dO,.li a0.cN,.li a0.e_,.list .self (a0.bT.map bE.C)])/\m.blk P1=some (Eo W A a1)/\m.ver P0 4=zP0+a0.bT.length/\oV m.hp W A AS LS a1.bP a1.aX a2/\(P0=P1)=False/\(P1=P0)=False/\m.gl 3=.eptr [(cA bY.C eY)] 0 0->SC prog 100 vs q m (λv Y=>v=.tup []/\Y=(m.fr P0 P1 ((aK.C r.1.p_)++[.li r.1.dO,.li r.1.cN,.li r.1.e_,.list .self (r.1.bT.map bE.C)]) (zP0+r.1.bT.length) (Eo W A r.2.1) (uP m.hp W r.2.1.bP AS r.2.2))/\eW a1 a2 r.2.1 r.2.2)
def sA (f:aE->aI->(List (List Int))->aA->Option (aE × aI × (List (List Int)))):Prop:=∀a0 a1 a2 a3 r,f a0 a1 a2 a3=some r->∀(q:Pa) (m:M) (vs:List V) (P0:Pa) (P1:Pa) (zP0:Nat) (W A:Pa) (AS:List Pa) (LS:List Nat),vs.map V.weak1=[.ptr P0 0,.ptr P1 0,.agg ((aA.C a3))]/\m.blk P0=some ((aK.C a0.p_)++[.li a0.dO,.li a0.cN,.li a0.e_,.list .self (a0.bT.map bE.C)])/\m.blk P1=some (Eo W A a1)/\m.ver P0 4=zP0+a0.bT.length/\oV m.hp W A AS LS a1.bP a1.aX a2/\(P0=P1)=False/\(P1=P0)=False/\m.gl 3=.eptr [(cA bY.C eY)] 0 0->SC prog 101 vs q m (λv Y=>v=.tup []/\Y=(m.fr P0 P1 ((aK.C r.1.p_)++[.li r.1.dO,.li r.1.cN,.li r.1.e_,.list .self (r.1.bT.map bE.C)]) (zP0+r.1.bT.length) (Eo W A r.2.1) (uP m.hp W r.2.1.bP AS r.2.2))/\eW a1 a2 r.2.1 r.2.2)
def rZ (f:aE->aI->(List (List Int))->aA->Option (aE × aI × (List (List Int)))):Prop:=∀a0 a1 a2 a3 r,f a0 a1 a2 a3=some r->∀(q:Pa) (m:M) (vs:List V) (P0:Pa) (P1:Pa) (zP0:Nat) (W A:Pa) (AS:List Pa) (LS:List Nat),vs.map V.weak1=[.ptr P0 0,.ptr P1 0,.agg ((aA.C a3))]/\m.blk P0=some ((aK.C a0.p_)++[.li a0.dO,.li a0.cN,.li a0.e_,.list .self (a0.bT.map bE.C)])/\m.blk P1=some (Eo W A a1)/\m.ver P0 4=zP0+a0.bT.length/\oV m.hp W A AS LS a1.bP a1.aX a2/\(P0=P1)=False/\(P1=P0)=False/\m.gl 3=.eptr [(cA bY.C eY)] 0 0->SC prog 102 vs q m (λv Y=>v=.tup []/\Y=(m.fr P0 P1 ((aK.C r.1.p_)++[.li r.1.dO,.li r.1.cN,.li r.1.e_,.list .self (r.1.bT.map bE.C)]) (zP0+r.1.bT.length) (Eo W A r.2.1) (uP m.hp W r.2.1.bP AS r.2.2))/\eW a1 a2 r.2.1 r.2.2)
theorem AW {fE} (yN:qJ fE) (n:Nat):kP (eT fE n):=by
 rintro a0 a1 a2 a3 r h q m vs P0 P1 zP0 W A AS LS ⟨hv,w0,w1,o0,hkF,hn0_1,hn1_0,hg3⟩;refine SC.wv hv ?_;refine SC.apart w0 λu0=>?_;refine SC.apart w1 λu1=>?_;have l0:=pF w0;have l1:=pF w1
 try simp only [go_sem] at w0 l0
 try simp only [go_sem] at w1 l1
 have hfs:=Hm w0 o0 w1;refine oE func34 call34 ntmps34 results34 ?_;unfold eT at h;refine bC ?_;refine cK ?_;obtain ⟨y6,j6,h⟩:=aD h;refine rG (λc X Y=>∃v2 v3 v4 v5,eL fE a3 c v2 v3 v4 v5=some y6/\X 0=.ptr P0 0/\X 1=.ptr P1 0/\X 8=.list .none (a3.map aA.C)/\X 9=.li (a3.length:Int)/\X 10=.li v2/\Y.blk P0=some ((aK.C v3.p_)++[.li v3.dO,.li v3.cN,.li v3.e_,.list .self (v3.bT.map bE.C)])/\Y.blk P1=some (Eo W A v4)/\Y.ver P0 4=zP0+v3.bT.length/\Y.gl=m.gl/\Y.hp=uP m.hp W v4.bP AS v5/\eW a1 a2 v4 v5/\m.back q Y=(m.fr P0 P1 ((aK.C v3.p_)++[.li v3.dO,.li v3.cN,.li v3.e_,.list .self (v3.bT.map bE.C)]) (zP0+v3.bT.length) (Eo W A v4) (uP m.hp W v4.bP AS v5))) n ⟨(0:Int),a0,a1,a2,j6,?_⟩ ?_
 ·simp only [go_sem,seval,bG,hfs,oV.same hkF,o0,w0,w1]
 rintro i1 c7 E8 m9 ⟨v2,v3,v4,v5,j6,e10⟩ _
 rcases c7 with _ | c7
 ·cases j6
 rw [eL] at j6;have kp11:eW a1 a2 v4 v5:=by simp only [e10]
 have hk12:oV (uP m.hp W v4.bP AS v5) W A AS LS v4.bP v4.aX v5:=oV.upk hkF kp11;refine bC ?_;refine aN (cY j6 (λc13 j6=>?_) (λc13 j6=>?_))
 ·refine bL ?_
  refine aN ?_;obtain ⟨y14,j14,j6⟩:=aD j6;refine rE 16 (λX Y=>∃(y14a:(aE × aI × (List (List Int)))),y14=.inl y14a/\X 0=.ptr P0 0/\X 1=.ptr P1 0/\X 8=.list .none (a3.map aA.C)/\X 9=.li (a3.length:Int)/\X 10=.li v2/\Y.blk P0=some ((aK.C y14a.1.p_)++[.li y14a.1.dO,.li y14a.1.cN,.li y14a.1.e_,.list .self (y14a.1.bT.map bE.C)])/\Y.blk P1=some (Eo W A y14a.2.1)/\Y.ver P0 4=zP0+y14a.1.bT.length/\Y.gl=m.gl/\Y.hp=uP m.hp W y14a.2.1.bP AS y14a.2.2/\eW a1 a2 y14a.2.1 y14a.2.2/\m.back q Y=(m.fr P0 P1 ((aK.C y14a.1.p_)++[.li y14a.1.dO,.li y14a.1.cN,.li y14a.1.e_,.list .self (y14a.1.bT.map bE.C)]) (zP0+y14a.1.bT.length) (Eo W A y14a.2.1) (uP m.hp W y14a.2.1.bP AS y14a.2.2))) ?_ ?_
  ·refine cK (aN ?_);obtain ⟨x15,h20,j14⟩:=aD j14;obtain ⟨f17,f18,f19⟩:=aY h20;refine dY ?_;refine aN (aN ?_);obtain ⟨x21,h22,j14⟩:=aD j14;refine bX λK hK=>?_;simp only [go_sem,seval,e10];refine SC.bA (dC v3 _ h22 _ _ _ P0 zP0) ?_;simp only [go_sem,seval];apply hK;refine cY j14 (λc23 j14=>?_) (λc23 j14=>?_)
   ·refine cB ?_
    try simp only [cE,gP]
    obtain rfl:=aZ j14;simp only [PQ] at j6;obtain rfl:=aZ j6;simp only [PQ] at h;cases h;refine ⟨zc,?_⟩;simp only [go_sem,bB,kp11,c23,e10]
   ·refine bL ?_
    refine aN ?_;obtain ⟨x24,h25,j14⟩:=aD j14;refine bX λK hK=>?_;simp only [go_sem,seval,c23,e10];refine SC.bA (wB v3 _ h25 _ _ _ P0 zP0) ?_;simp only [go_sem,seval];apply hK;refine aN ?_;obtain ⟨x26,h27,j14⟩:=aD j14;refine bX λK hK=>?_;simp only [go_sem,seval,e10];refine SC.bA (dC x24 _ h27 _ _ _ P0 zP0) ?_;simp only [go_sem,seval];apply hK;refine cY j14 (λc28 j14=>?_) (λc28 j14=>?_)
    ·obtain ⟨x29,h30,j14⟩:=aD j14;refine kM λK hK=>?_;simp only [go_sem,seval,jZ u0,c28,e10];refine SC.mono (yN x24 v4 v5 x15 _ h30 _ _ _ P0 P1 zP0 W A AS LS (by simp only [go_sem,seval,jZ u1,hn0_1,hn1_0,hk12,e10,hg3])) ?_;rintro _ _ ⟨rfl,rfl,kp_x29⟩;have kpc_x29:eW a1 a2 x29.2.1 x29.2.2:=eW.trans kp11 kp_x29;have hkc_x29:oV (uP m.hp W x29.2.1.bP AS x29.2.2) W A AS LS x29.2.1.bP x29.2.1.aX x29.2.2:=oV.upk hkF kpc_x29;simp only [go_sem,seval,e10];apply hK;simp only [aR,bJ];obtain rfl:=aZ j14;refine ⟨zb,(x29.1,x29.2.1,x29.2.2),rfl,?_⟩;simp only [go_sem,seval,bB,dR u0,Ch u0 u1,hn1_0,kpc_x29,e10]
    ·refine bL ?_
     try simp only [aR,bJ]
     obtain rfl:=aZ j14;refine ⟨zb,(x24,v4,v5),rfl,?_⟩;simp only [go_sem,seval,bB,dR u0,jZ u1,hn1_0,kp11,c28,e10]
  ·rintro E31 m32 ⟨y14a,rfl,e33⟩ _;simp only [SP] at j6;simp only [aR];have kp34:eW a1 a2 y14a.2.1 y14a.2.2:=by simp only [e33]
   have hk35:oV (uP m.hp W y14a.2.1.bP AS y14a.2.2) W A AS LS y14a.2.1.bP y14a.2.1.aX y14a.2.2:=oV.upk hkF kp34;refine dY ?_;refine ⟨c7,EO _,(i64.wrap (v2+(1:Int))),y14a.1,y14a.2.1,y14a.2.2,j6,?_⟩;simp only [go_sem,seval,kp34,e33]
 ·refine gE ?_
  try simp only [cV,cM,↓reduceIte]
  obtain rfl:=aZ j6;simp only [SP] at h;cases h;refine ⟨zc,?_⟩;simp only [go_sem,kp11,c13,e10]
theorem yH {pA} (BP:sV pA) {nJ} (Az:sA nJ) {nI} (Ay:rZ nI) (n:Nat):qJ (dS pA nJ nI n):=by
 rintro a0 a1 a2 a3 r h q m vs P0 P1 zP0 W A AS LS ⟨hv,w0,w1,o0,hkF,hn0_1,hn1_0,hg3⟩;refine SC.wv hv ?_;refine SC.apart w0 λu0=>?_;refine SC.apart w1 λu1=>?_;have l0:=pF w0;have l1:=pF w1
 try simp only [go_sem] at w0 l0
 try simp only [go_sem] at w1 l1
 have hfs:=Hm w0 o0 w1;refine oE func65 call65 ntmps65 results65 ?_;unfold dS at h;refine bC ?_;refine bC ?_;refine cK (aN (bC ?_));refine cY h (λc2 h=>?_) (λc2 h=>?_)
 ·refine bL ?_
  refine mA true (by simp only [go_sem,seval,c2]) ?_;simp only [↓reduceIte];refine aN ?_;obtain ⟨x3,h8,h⟩:=aD h;obtain ⟨f5,f6,f7⟩:=aY h8;have f9:a3.aM[0]? = some x3:=f7;obtain ⟨x4,h10,h⟩:=aD h;refine bX λK hK=>?_;simp only [go_sem,seval,c2,f5,f6,f9];refine SC.by_ (gB n a0 a1 a2 x3 _ h10 _ _ _ P0 P1 zP0 W A AS LS (by simp only [go_sem,seval,lR u0,lR u1,hkF,hn0_1,hn1_0,w0,o0,w1,hg3])) ?_;simp only [go_sem,seval];apply hK;refine aN ?_;obtain ⟨x11,h12,h⟩:=aD h;refine bX λK hK=>?_;simp only [go_sem,seval];refine SC.bA (dC x4.2 _ h12 _ _ _ P0 zP0) ?_;simp only [go_sem,seval];apply hK;refine cY h (λc13 h=>?_) (λc13 h=>?_)
  ·obtain ⟨x14,h15,h⟩:=aD h;refine kM λK hK=>?_;simp only [go_sem,seval,lR u0,c13];refine SC.mono (mB a1 a2 a3.cZ x4.1 _ h15 _ _ _ P1 W A AS LS (by simp only [go_sem,seval,lR u1,hkF,hn1_0,w1])) ?_;rintro _ _ ⟨rfl,rfl,kp_x14⟩;have kpc_x14:eW a1 a2 x14.1 x14.2:=eW.trans eW.refl kp_x14;have hkc_x14:oV (uP m.hp W x14.1.bP AS x14.2) W A AS LS x14.1.bP x14.1.aX x14.2:=oV.upk hkF kpc_x14;simp only [go_sem,seval];apply hK;simp only [bJ];cases h;refine ⟨zc,?_⟩;simp only [go_sem,bB,bG,jQ,dW u1,dR u0,En hn1_0,pO w1,kpc_x14]
  ·refine bL ?_
   try simp only [bJ]
   cases h;refine ⟨zc,?_⟩;simp only [go_sem,bB,bG,dR u0,pO w1,oV.same hkF,c13]
 ·refine bC ?_;refine cY h (λc16 h=>?_) (λc16 h=>?_)
  ·refine bL ?_
   refine mA true (by simp only [go_sem,seval,c16]) ?_;simp only [↓reduceIte];refine aN ?_;obtain ⟨x17,h22,h⟩:=aD h;obtain ⟨f19,f20,f21⟩:=aY h22;have f23:a3.aM[0]? = some x17:=f21;obtain ⟨x18,h24,h⟩:=aD h;refine bX λK hK=>?_;simp only [go_sem,seval,c16,f19,f20,f23];refine SC.by_ (gB n a0 a1 a2 x17 _ h24 _ _ _ P0 P1 zP0 W A AS LS (by simp only [go_sem,seval,lR u0,lR u1,hkF,hn0_1,hn1_0,w0,o0,w1,hg3])) ?_;simp only [go_sem,seval];apply hK;refine aN ?_;obtain ⟨x25,h26,h⟩:=aD h;refine bX λK hK=>?_;simp only [go_sem,seval];refine SC.bA (dC x18.2 _ h26 _ _ _ P0 zP0) ?_;simp only [go_sem,seval];apply hK;refine cY h (λc27 h=>?_) (λc27 h=>?_)
   ·obtain ⟨x28,h29,h⟩:=aD h;refine kM λK hK=>?_;simp only [go_sem,seval,lR u0,c27];refine SC.mono (mB a1 a2 a3.cZ x18.1 _ h29 _ _ _ P1 W A AS LS (by simp only [go_sem,seval,lR u1,hkF,hn1_0,w1])) ?_;rintro _ _ ⟨rfl,rfl,kp_x28⟩;have kpc_x28:eW a1 a2 x28.1 x28.2:=eW.trans eW.refl kp_x28;have hkc_x28:oV (uP m.hp W x28.1.bP AS x28.2) W A AS LS x28.1.bP x28.1.aX x28.2:=oV.upk hkF kpc_x28;simp only [go_sem,seval];apply hK;simp only [bJ];cases h;refine ⟨zc,?_⟩;simp only [go_sem,bB,bG,jQ,dW u1,dR u0,En hn1_0,pO w1,kpc_x28]
   ·refine bL ?_
    try simp only [bJ]
    cases h;refine ⟨zc,?_⟩;simp only [go_sem,bB,bG,dR u0,pO w1,oV.same hkF,c27]
  ·refine dY ?_;refine cY h (λc30 h=>?_) (λc30 h=>?_)
   ·refine aN ?_;obtain ⟨x31,h36,h⟩:=aD h;obtain ⟨f33,f34,f35⟩:=aY h36;have f37:a3.aM[0]? = some x31:=f35;obtain ⟨x32,h38,h⟩:=aD h;refine bX λK hK=>?_;simp only [go_sem,seval,c30,f33,f34,f37];refine SC.by_ (gB n a0 a1 a2 x31 _ h38 _ _ _ P0 P1 zP0 W A AS LS (by simp only [go_sem,seval,lR u0,lR u1,hkF,hn0_1,hn1_0,w0,o0,w1,hg3])) ?_;simp only [go_sem,seval];apply hK;refine aN ?_;obtain ⟨x39,h40,h⟩:=aD h;refine bX λK hK=>?_;simp only [go_sem,seval];refine SC.bA (dC x32.2 _ h40 _ _ _ P0 zP0) ?_;simp only [go_sem,seval];apply hK;refine cY h (λc41 h=>?_) (λc41 h=>?_)
    ·obtain ⟨x42,h43,h⟩:=aD h;refine kM λK hK=>?_;simp only [go_sem,seval,lR u0,c41];refine SC.mono (mB a1 a2 a3.cZ x32.1 _ h43 _ _ _ P1 W A AS LS (by simp only [go_sem,seval,lR u1,hkF,hn1_0,w1])) ?_;rintro _ _ ⟨rfl,rfl,kp_x42⟩;have kpc_x42:eW a1 a2 x42.1 x42.2:=eW.trans eW.refl kp_x42;have hkc_x42:oV (uP m.hp W x42.1.bP AS x42.2) W A AS LS x42.1.bP x42.1.aX x42.2:=oV.upk hkF kpc_x42;simp only [go_sem,seval];apply hK;simp only [bJ];cases h;refine ⟨zc,?_⟩;simp only [go_sem,bB,bG,jQ,dW u1,dR u0,En hn1_0,pO w1,kpc_x42]
    ·refine bL ?_
     try simp only [bJ]
     cases h;refine ⟨zc,?_⟩;simp only [go_sem,bB,bG,dR u0,pO w1,oV.same hkF,c41]
   ·refine bC ?_;refine cY h (λc44 h=>?_) (λc44 h=>?_)
    ·obtain ⟨x45,h53,h⟩:=aD h;obtain ⟨f50,f51,f52⟩:=aY h53;obtain ⟨w54,d55⟩:=tP (f:=(Ac AS LS)) f52;obtain ⟨x46,h59,h⟩:=aD h;obtain ⟨f56,f57,f58⟩:=aY h59;have hx_a_47:=f58;obtain ⟨a_47,d60,d61,ex_a_47,nw_a_47,na_a_47⟩:=oV.get hkF f56 f58;obtain ⟨f62,h⟩:=bN h;have kp48:eW a1 a2 a1 (a2.set x45.toNat (List.replicate x46.length (0:Int))):=eW.setA eW.refl hx_a_47 Oy;have hk49:oV (uP m.hp W a1.bP AS (a2.set x45.toNat (List.replicate x46.length (0:Int)))) W A AS LS a1.bP a1.aX (a2.set x45.toNat (List.replicate x46.length (0:Int))):=oV.upk hkF kp48;refine eV λK hK=>?_;simp only [go_sem,seval,gR,lR u1,hkF.a,c44,f50,f51,d55,d60,d61,f62,(oV.setA hkF ex_a_47),clr_eq,w1];apply hK;simp only [bJ];cases h;refine ⟨zc,?_⟩;simp only [go_sem,bB,bG,jQ,TL hfs,kp48]
    ·refine bC ?_;refine cY h (λc63 h=>?_) (λc63 h=>?_)
     ·obtain ⟨x64,h65,h⟩:=aD h;refine kM λK hK=>?_;simp only [go_sem,seval,c63];refine SC.mono (Cz n a0 a1 a2 a3 _ h65 _ _ _ P0 P1 zP0 W A AS LS (by simp only [go_sem,seval,lR u0,lR u1,hkF,hn0_1,hn1_0,w0,o0,w1,hg3])) ?_;rintro _ _ ⟨rfl,rfl,kp_x64⟩;have kpc_x64:eW a1 a2 x64.2.1 x64.2.2:=eW.trans eW.refl kp_x64;have hkc_x64:oV (uP m.hp W x64.2.1.bP AS x64.2.2) W A AS LS x64.2.1.bP x64.2.1.aX x64.2.2:=oV.upk hkF kpc_x64;simp only [go_sem,seval];apply hK;simp only [bJ];cases h;refine ⟨zc,?_⟩;simp only [go_sem,bB,bG,Ch u0 u1,kpc_x64]
     ·refine bC ?_;refine cY h (λc66 h=>?_) (λc66 h=>?_)
      ·obtain ⟨x67,h68,h⟩:=aD h;refine kM λK hK=>?_;simp only [go_sem,seval,c66];refine SC.mono (BP a0 a1 a2 a3 _ h68 _ _ _ P0 P1 zP0 W A AS LS (by simp only [go_sem,seval,lR u0,lR u1,hkF,hn0_1,hn1_0,w0,o0,w1,hg3])) ?_;rintro _ _ ⟨rfl,rfl,kp_x67⟩;have kpc_x67:eW a1 a2 x67.2.1 x67.2.2:=eW.trans eW.refl kp_x67;have hkc_x67:oV (uP m.hp W x67.2.1.bP AS x67.2.2) W A AS LS x67.2.1.bP x67.2.1.aX x67.2.2:=oV.upk hkF kpc_x67;simp only [go_sem,seval];apply hK;simp only [bJ];cases h;refine ⟨zc,?_⟩;simp only [go_sem,bB,bG,Ch u0 u1,kpc_x67]
      ·refine bC ?_;refine cY h (λc69 h=>?_) (λc69 h=>?_)
       ·obtain ⟨x70,h71,h⟩:=aD h;refine kM λK hK=>?_;simp only [go_sem,seval,c69];refine SC.mono (Az a0 a1 a2 a3 _ h71 _ _ _ P0 P1 zP0 W A AS LS (by simp only [go_sem,seval,lR u0,lR u1,hkF,hn0_1,hn1_0,w0,o0,w1,hg3])) ?_;rintro _ _ ⟨rfl,rfl,kp_x70⟩;have kpc_x70:eW a1 a2 x70.2.1 x70.2.2:=eW.trans eW.refl kp_x70;have hkc_x70:oV (uP m.hp W x70.2.1.bP AS x70.2.2) W A AS LS x70.2.1.bP x70.2.1.aX x70.2.2:=oV.upk hkF kpc_x70;simp only [go_sem,seval];apply hK;simp only [bJ];cases h;refine ⟨zc,?_⟩;simp only [go_sem,bB,bG,Ch u0 u1,kpc_x70]
       ·refine bC ?_;refine cY h (λc72 h=>?_) (λc72 h=>?_)
        ·obtain ⟨x73,h74,h⟩:=aD h;refine kM λK hK=>?_;simp only [go_sem,seval,c72];refine SC.mono (Ay a0 a1 a2 a3 _ h74 _ _ _ P0 P1 zP0 W A AS LS (by simp only [go_sem,seval,lR u0,lR u1,hkF,hn0_1,hn1_0,w0,o0,w1,hg3])) ?_;rintro _ _ ⟨rfl,rfl,kp_x73⟩;have kpc_x73:eW a1 a2 x73.2.1 x73.2.2:=eW.trans eW.refl kp_x73;have hkc_x73:oV (uP m.hp W x73.2.1.bP AS x73.2.2) W A AS LS x73.2.1.bP x73.2.1.aX x73.2.2:=oV.upk hkF kpc_x73;simp only [go_sem,seval];apply hK;simp only [bJ];cases h;refine ⟨zc,?_⟩;simp only [go_sem,bB,bG,Ch u0 u1,kpc_x73]
        ·refine bC ?_;refine cY h (λc75 h=>?_) (λc75 h=>?_)
         ·obtain ⟨x76,h82,h⟩:=aD h;obtain ⟨f79,f80,f81⟩:=aY h82;have f83:a3.aM[0]? = some x76:=f81;obtain ⟨x77,h84,h⟩:=aD h;have kp78:eW a1 a2 ({ a1 with eX:=x77.1 }:aI) a2:=eW.res eW.refl;refine kM λK hK=>?_;simp only [go_sem,seval,c75,f79,f80,f83];refine SC.by_ (gB n a0 a1 a2 x76 _ h84 _ _ _ P0 P1 zP0 W A AS LS (by simp only [go_sem,seval,lR u0,lR u1,hkF,hn0_1,hn1_0,w0,o0,w1,hg3])) ?_;simp only [go_sem,seval,lR u1,hn1_0,w1];apply hK;simp only [bJ];cases h;refine ⟨zc,?_⟩;simp only [go_sem,bB,bG,dW u1,dR u0,En hn1_0,pO w1,oV.same hkF,kp78]
         ·refine bL ?_
          try simp only [bJ]
          cases h;refine ⟨zc,?_⟩;simp only [go_sem,bB,bG,hfs,oV.same hkF,c75]
theorem BA {cH} (jI:kP cH) (n:Nat):sV (dZ cH n):=Sq jI n
theorem Ao {cH} (jI:kP cH) (n:Nat):sA (eK cH n):=by
 rintro a0 a1 a2 a3 r h q m vs P0 P1 zP0 W A AS LS ⟨hv,w0,w1,o0,hkF,hn0_1,hn1_0,hg3⟩;refine SC.wv hv ?_;refine SC.apart w0 λu0=>?_;refine SC.apart w1 λu1=>?_;have l0:=pF w0;have l1:=pF w1
 try simp only [go_sem] at w0 l0
 try simp only [go_sem] at w1 l1
 have hfs:=Hm w0 o0 w1;refine oE func101 call101 ntmps101 results101 ?_;unfold eK at h;refine bC ?_;refine aN ?_;obtain ⟨x2,h7,h⟩:=aD h;obtain ⟨f4,f5,f6⟩:=aY h7;have f8:a3.aM[0]? = some x2:=f6;obtain ⟨x3,h9,h⟩:=aD h;refine bX λK hK=>?_;simp only [go_sem,seval,f4,f5,f8];refine SC.by_ (gB n a0 a1 a2 x2 _ h9 _ _ _ P0 P1 zP0 W A AS LS (by simp only [go_sem,seval,lR u0,lR u1,hkF,hn0_1,hn1_0,w0,o0,w1,hg3])) ?_;simp only [go_sem,seval];apply hK;refine aN (aN ?_);obtain ⟨x10,h11,h⟩:=aD h;refine bX λK hK=>?_;simp only [go_sem,seval];refine SC.bA (dC x3.2 _ h11 _ _ _ P0 zP0) ?_;simp only [go_sem,seval];apply hK;refine cY h (λc12 h=>?_) (λc12 h=>?_)
 ·refine cB ?_
  try simp only [cE]
  cases h;refine ⟨zc,?_⟩;simp only [go_sem,bB,bG,dR u0,pO w1,oV.same hkF,c12]
 ·refine bL ?_
  refine aN (bC ?_);refine cY h (λc13 h=>?_) (λc13 h=>?_)
  ·refine aN ?_;obtain ⟨x14,h15,h⟩:=aD h;refine bX λK hK=>?_;simp only [go_sem,seval,c13];refine SC.bA (lI x3.2 (1:Int) (1:Int) (0:Int) _ h15 _ _ _ P0 zP0) ?_;simp only [go_sem,seval];apply hK;refine aN ?_;obtain ⟨x16,h17,h⟩:=aD h;refine bX λK hK=>?_;simp only [go_sem,seval,lR u0];refine SC.mono (jI x14 a1 a2 a3.bR _ h17 _ _ _ P0 P1 zP0 W A AS LS (by simp only [go_sem,seval,lR u1,hkF,hn0_1,hn1_0,w1,hg3])) ?_;rintro _ _ ⟨rfl,rfl,kp_x16⟩;have kpc_x16:eW a1 a2 x16.2.1 x16.2.2:=eW.trans eW.refl kp_x16;have hkc_x16:oV (uP m.hp W x16.2.1.bP AS x16.2.2) W A AS LS x16.2.1.bP x16.2.1.aX x16.2.2:=oV.upk hkF kpc_x16;simp only [go_sem,seval];apply hK;refine cB ?_
   try simp only [cE]
   cases h;refine ⟨zc,?_⟩;simp only [go_sem,bB,bG,dR u0,Ch u0 u1,pO w1,kpc_x16]
  ·refine bL ?_
   refine aN ?_;obtain ⟨x18,h19,h⟩:=aD h;refine bX λK hK=>?_;simp only [go_sem,seval,c13];refine SC.bA (lI x3.2 (1:Int) (0:Int) (0:Int) _ h19 _ _ _ P0 zP0) ?_;simp only [go_sem,seval];apply hK;obtain ⟨x20,h21,h⟩:=aD h;refine kM λK hK=>?_;simp only [go_sem,seval,lR u0];refine SC.mono (jI x18 a1 a2 a3.iP _ h21 _ _ _ P0 P1 zP0 W A AS LS (by simp only [go_sem,seval,lR u1,hkF,hn0_1,hn1_0,w1,hg3])) ?_;rintro _ _ ⟨rfl,rfl,kp_x20⟩;have kpc_x20:eW a1 a2 x20.2.1 x20.2.2:=eW.trans eW.refl kp_x20;have hkc_x20:oV (uP m.hp W x20.2.1.bP AS x20.2.2) W A AS LS x20.2.1.bP x20.2.1.aX x20.2.2:=oV.upk hkF kpc_x20;simp only [go_sem,seval];apply hK;simp only [];cases h;refine ⟨zc,?_⟩;simp only [go_sem,bB,bG,dR u0,Ch u0 u1,pO w1,kpc_x20]
theorem An {cH} (jI:kP cH) (n:Nat):rZ (eJ cH n):=by
 rintro a0 a1 a2 a3 r h q m vs P0 P1 zP0 W A AS LS ⟨hv,w0,w1,o0,hkF,hn0_1,hn1_0,hg3⟩;refine SC.wv hv ?_;refine SC.apart w0 λu0=>?_;refine SC.apart w1 λu1=>?_;have l0:=pF w0;have l1:=pF w1
 try simp only [go_sem] at w0 l0
 try simp only [go_sem] at w1 l1
 have hfs:=Hm w0 o0 w1;refine oE func102 call102 ntmps102 results102 ?_;unfold eJ at h;refine bC ?_;refine aN ?_;obtain ⟨x2,h7,h⟩:=aD h;obtain ⟨f4,f5,f6⟩:=aY h7;have f8:a3.aM[0]? = some x2:=f6;obtain ⟨x3,h9,h⟩:=aD h;refine bX λK hK=>?_;simp only [go_sem,seval,f4,f5,f8];refine SC.by_ (gB n a0 a1 a2 x2 _ h9 _ _ _ P0 P1 zP0 W A AS LS (by simp only [go_sem,seval,jZ u0,jZ u1,hkF,hn0_1,hn1_0,w0,o0,w1,hg3])) ?_;simp only [go_sem,seval];apply hK;refine aN (aN ?_);obtain ⟨x10,h11,h⟩:=aD h;refine bX λK hK=>?_;simp only [go_sem,seval];refine SC.bA (dC x3.2 _ h11 _ _ _ P0 zP0) ?_;simp only [go_sem,seval];apply hK;refine cY h (λc12 h=>?_) (λc12 h=>?_)
 ·refine cB ?_
  try simp only [cE]
  cases h;refine ⟨zc,?_⟩;simp only [go_sem,bB,bG,dR u0,pO w1,oV.same hkF,c12]
 ·refine bL ?_
  refine aN ?_;obtain ⟨x13,h18,h⟩:=aD h;obtain ⟨f15,f16,f17⟩:=aY h18;have f19:a3.aM[1]? = some x13:=f17;obtain ⟨x14,h20,h⟩:=aD h;refine bX λK hK=>?_;simp only [go_sem,seval,jZ u0,c12,f15,f16,f19];refine SC.by_ (gB n x3.2 a1 a2 x13 _ h20 _ _ _ P0 P1 zP0 W A AS LS (by simp only [go_sem,seval,jZ u1,hkF,hn0_1,hn1_0,w1,hg3])) ?_;simp only [go_sem,seval];apply hK;refine aN (aN ?_);obtain ⟨x21,h22,h⟩:=aD h;refine bX λK hK=>?_;simp only [go_sem,seval];refine SC.bA (dC x14.2 _ h22 _ _ _ P0 zP0) ?_;simp only [go_sem,seval];apply hK;refine cY h (λc23 h=>?_) (λc23 h=>?_)
  ·refine cB ?_
   try simp only [cE]
   cases h;refine ⟨zc,?_⟩;simp only [go_sem,bB,bG,dR u0,pO w1,oV.same hkF,c23]
  ·refine bL ?_
   refine aN ?_;obtain ⟨x24,h25,h⟩:=aD h;refine bX λK hK=>?_;simp only [go_sem,seval,c23];refine SC.bA (lI x14.2 (2:Int) (u32.wrap x3.1) (u32.wrap x14.1) _ h25 _ _ _ P0 zP0) ?_;simp only [go_sem,seval];apply hK;refine bC ?_;refine cK ?_;obtain ⟨y31,j31,h⟩:=aD h;refine rG (λc X Y=>∃v27 v28 v29 v30,gV cH x14 a3 c v27 v28 v29 v30=some y31/\X 0=.ptr P0 0/\X 1=.ptr P1 0/\X 5=.ptr (0::q) 0/\X 7=.lw (u32.wrap x14.1)/\X 8=.lw v27/\Y.blk P0=some ((aK.C v28.p_)++[.li v28.dO,.li v28.cN,.li v28.e_,.list .self (v28.bT.map bE.C)])/\Y.blk P1=some (Eo W A v29)/\Y.blk (0::q)=some ((aA.C a3))/\Y.ver P0 4=zP0+v28.bT.length/\Y.gl=m.gl/\Y.hp=uP m.hp W v29.bP AS v30/\eW a1 a2 v29 v30/\m.back q Y=(m.fr P0 P1 ((aK.C v28.p_)++[.li v28.dO,.li v28.cN,.li v28.e_,.list .self (v28.bT.map bE.C)]) (zP0+v28.bT.length) (Eo W A v29) (uP m.hp W v29.bP AS v30))) n ⟨(u32.wrap x3.1),x24,a1,a2,j31,?_⟩ ?_
   ·simp only [go_sem,seval,bB,bG,dR u0,pO w1,oV.same hkF,jZ u0,jZ u1,hn1_0,w1]
   rintro i26 c32 E33 m34 ⟨v27,v28,v29,v30,j31,e35⟩ _
   rcases c32 with _ | c32
   ·cases j31
   rw [gV] at j31;have kp36:eW a1 a2 v29 v30:=by simp only [e35]
   have hk37:oV (uP m.hp W v29.bP AS v30) W A AS LS v29.bP v29.aX v30:=oV.upk hkF kp36;refine aN (aN ?_);obtain ⟨y38,j38,j31⟩:=aD j31;refine rE 8 (λX Y=>X 0=.ptr P0 0/\X 1=.ptr P1 0/\X 5=.ptr (0::q) 0/\X 7=.lw (u32.wrap x14.1)/\X 8=.lw v27/\X 41=.lb y38/\Y.blk P0=some ((aK.C v28.p_)++[.li v28.dO,.li v28.cN,.li v28.e_,.list .self (v28.bT.map bE.C)])/\Y.blk P1=some (Eo W A v29)/\Y.blk (0::q)=some ((aA.C a3))/\Y.ver P0 4=zP0+v28.bT.length/\Y.gl=m.gl/\Y.hp=uP m.hp W v29.bP AS v30/\eW a1 a2 v29 v30/\m.back q Y=(m.fr P0 P1 ((aK.C v28.p_)++[.li v28.dO,.li v28.cN,.li v28.e_,.list .self (v28.bT.map bE.C)]) (zP0+v28.bT.length) (Eo W A v29) (uP m.hp W v29.bP AS v30))) ?_ ?_
   ·rcases mL j38 with ⟨c39,j38⟩ | ⟨c39,j38⟩
    ·obtain ⟨x40,h41,j38⟩:=aD j38;refine bX λK hK=>?_;simp only [go_sem,seval,c39,e35];refine SC.bA (dC v28 _ h41 _ _ _ P0 zP0) ?_;simp only [go_sem,seval];apply hK;obtain rfl:=aZ j38;refine ⟨zb,?_⟩;simp only [go_sem,seval,kp36,e35]
    ·refine dY ?_;obtain rfl:=aZ j38;refine ⟨zb,?_⟩;simp only [go_sem,seval,kp36,e35]
   ·intro E42 m43 e44 _;refine cY j31 (λc45 j31=>?_) (λc45 j31=>?_)
    ·refine bL ?_
     refine aN (cK (aN ?_));obtain ⟨x46,h47,j31⟩:=aD j31;refine bX λK hK=>?_;simp only [go_sem,seval,e44];refine SC.bA (wB v28 _ h47 _ _ _ P0 zP0) ?_;simp only [go_sem,seval];apply hK;refine aN ?_;obtain ⟨x48,h49,j31⟩:=aD j31;refine bX λK hK=>?_;simp only [go_sem,seval,jZ u0,e44];refine SC.mono (mB v29 v30 a3.cZ (u64.wrap v27) _ h49 _ _ _ P1 W A AS LS (by simp only [go_sem,seval,hn1_0,hk37,e44])) ?_;rintro _ _ ⟨rfl,rfl,kp_x48⟩;have kpc_x48:eW a1 a2 x48.1 x48.2:=eW.trans kp36 kp_x48;have hkc_x48:oV (uP m.hp W x48.1.bP AS x48.2) W A AS LS x48.1.bP x48.1.aX x48.2:=oV.upk hkF kpc_x48;simp only [go_sem,seval,e44];apply hK;obtain ⟨x50,h51,j31⟩:=aD j31;refine kM λK hK=>?_;simp only [go_sem,seval,jZ u0,jZ u1,e44];refine SC.mono (jI x46 x48.1 x48.2 a3.bR _ h51 _ _ _ P0 P1 zP0 W A AS LS (by simp only [go_sem,seval,hn0_1,hn1_0,hkc_x48,e44,hg3])) ?_;rintro _ _ ⟨rfl,rfl,kp_x50⟩;have kpc_x50:eW a1 a2 x50.2.1 x50.2.2:=eW.trans kpc_x48 kp_x50;have hkc_x50:oV (uP m.hp W x50.2.1.bP AS x50.2.2) W A AS LS x50.2.1.bP x50.2.1.aX x50.2.2:=oV.upk hkF kpc_x50;simp only [go_sem,seval];apply hK;simp only [aR,bJ];refine dY ?_;refine ⟨c32,EO _,(u32.wrap (v27+(1:Int))),x50.1,x50.2.1,x50.2.2,j31,?_⟩;simp only [go_sem,seval,dW u1,dR u0,Ch u0 u1,En hn1_0,jZ u0,jZ u1,hn1_0,kpc_x50,e44]
    ·refine gE ?_
     try simp only [cV,cM,↓reduceIte]
     obtain rfl:=aZ j31;cases h;refine ⟨zc,?_⟩;simp only [go_sem,kp36,e44]
theorem tJ:∀n,kP (dA n)/\qJ (fT n)/\sV (iV n)/\sA (iA n)/\rZ (gZ n)
 | 0=>⟨λ_ _ _ _ _ h=>eO h,λ_ _ _ _ _ h=>eO h,λ_ _ _ _ _ h=>eO h,λ_ _ _ _ _ h=>eO h,λ_ _ _ _ _ h=>eO h⟩
 | n+1=>
   have ih:=tJ n
   ⟨AW ih.2.1 n,yH ih.2.2.1 ih.2.2.2.1 ih.2.2.2.2 n,BA ih.1 n,Ao ih.1 n,An ih.1 n⟩
theorem CB (n:Nat):kP (dA n):=(tJ n).1
