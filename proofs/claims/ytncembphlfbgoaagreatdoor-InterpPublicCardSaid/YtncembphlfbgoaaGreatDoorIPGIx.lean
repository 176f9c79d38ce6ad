/- Lemmas of ours. -/
import Derived.Test.YtncembphlfbgoaaGreatDoorIPIcall
namespace Go.Proofs.YtncembphlfbgoaaGreatDoor.Abs
open Go.RowKit Tryz
open IntKind (i64 u32 u64 u8)
set_option linter.unusedVariables false
set_option maxRecDepth 10000
def jI (f:aE->aJ->(List (List Int))->(List aH)->Option (aE × aJ × (List (List Int)))):Prop:=∀a0 a1 a2 a3 r,f a0 a1 a2 a3=some r->∀(q:Pa) (m:M) (vs:List V) (P0:Pa) (P1:Pa) (zP0:Nat) (W A:Pa) (AS:List Pa) (LS:List Nat),vs.map V.weak1=[.ptr P0 0,.ptr P1 0,.list .none (a3.map aH.C)]/\m.blk P0=some ((aN.C a0.p_)++[.lit (.int .i64 a0.eB),.lit (.int .i64 a0.fQ),.lit (.int .i64 a0.e_),.list .self (a0.bT.map bC.C)])/\m.blk P1=some (Cx W A a1)/\m.ver P0 4=zP0+a0.bT.length/\nV m.hp W A AS LS a1.cC a1.cE a2/\(P0=P1)=False/\(P1=P0)=False/\m.gl 3=.eptr [(cA bY.C dR)] 0 0->SC prog 47 vs q m (fun v Y=>v=.tup []/\Y=(m.fr P0 P1 ((aN.C r.1.p_)++[.lit (.int .i64 r.1.eB),.lit (.int .i64 r.1.fQ),.lit (.int .i64 r.1.e_),.list .self (r.1.bT.map bC.C)]) (zP0+r.1.bT.length) (Cx W A r.2.1) (tF m.hp W r.2.1.cC AS r.2.2))/\eJ a1 a2 r.2.1 r.2.2)
def pC (f:aE->aJ->(List (List Int))->aH->Option (aE × aJ × (List (List Int)))):Prop:=∀a0 a1 a2 a3 r,f a0 a1 a2 a3=some r->∀(q:Pa) (m:M) (vs:List V) (P0:Pa) (P1:Pa) (zP0:Nat) (W A:Pa) (AS:List Pa) (LS:List Nat),vs.map V.weak1=[.ptr P0 0,.ptr P1 0,.agg ((aH.C a3))]/\m.blk P0=some ((aN.C a0.p_)++[.lit (.int .i64 a0.eB),.lit (.int .i64 a0.fQ),.lit (.int .i64 a0.e_),.list .self (a0.bT.map bC.C)])/\m.blk P1=some (Cx W A a1)/\m.ver P0 4=zP0+a0.bT.length/\nV m.hp W A AS LS a1.cC a1.cE a2/\(P0=P1)=False/\(P1=P0)=False/\m.gl 3=.eptr [(cA bY.C dR)] 0 0->SC prog 77 vs q m (fun v Y=>v=.tup []/\Y=(m.fr P0 P1 ((aN.C r.1.p_)++[.lit (.int .i64 r.1.eB),.lit (.int .i64 r.1.fQ),.lit (.int .i64 r.1.e_),.list .self (r.1.bT.map bC.C)]) (zP0+r.1.bT.length) (Cx W A r.2.1) (tF m.hp W r.2.1.cC AS r.2.2))/\eJ a1 a2 r.2.1 r.2.2)
def rP (f:aE->aJ->(List (List Int))->aH->Option (aE × aJ × (List (List Int)))):Prop:=∀a0 a1 a2 a3 r,f a0 a1 a2 a3=some r->∀(q:Pa) (m:M) (vs:List V) (P0:Pa) (P1:Pa) (zP0:Nat) (W A:Pa) (AS:List Pa) (LS:List Nat),vs.map V.weak1=[.ptr P0 0,.ptr P1 0,.agg ((aH.C a3))]/\m.blk P0=some ((aN.C a0.p_)++[.lit (.int .i64 a0.eB),.lit (.int .i64 a0.fQ),.lit (.int .i64 a0.e_),.list .self (a0.bT.map bC.C)])/\m.blk P1=some (Cx W A a1)/\m.ver P0 4=zP0+a0.bT.length/\nV m.hp W A AS LS a1.cC a1.cE a2/\(P0=P1)=False/\(P1=P0)=False/\m.gl 3=.eptr [(cA bY.C dR)] 0 0->SC prog 123 vs q m (fun v Y=>v=.tup []/\Y=(m.fr P0 P1 ((aN.C r.1.p_)++[.lit (.int .i64 r.1.eB),.lit (.int .i64 r.1.fQ),.lit (.int .i64 r.1.e_),.list .self (r.1.bT.map bC.C)]) (zP0+r.1.bT.length) (Cx W A r.2.1) (tF m.hp W r.2.1.cC AS r.2.2))/\eJ a1 a2 r.2.1 r.2.2)
def qM (f:aE->aJ->(List (List Int))->aH->Option (aE × aJ × (List (List Int)))):Prop:=∀a0 a1 a2 a3 r,f a0 a1 a2 a3=some r->∀(q:Pa) (m:M) (vs:List V) (P0:Pa) (P1:Pa) (zP0:Nat) (W A:Pa) (AS:List Pa) (LS:List Nat),vs.map V.weak1=[.ptr P0 0,.ptr P1 0,.agg ((aH.C a3))]/\m.blk P0=some ((aN.C a0.p_)++[.lit (.int .i64 a0.eB),.lit (.int .i64 a0.fQ),.lit (.int .i64 a0.e_),.list .self (a0.bT.map bC.C)])/\m.blk P1=some (Cx W A a1)/\m.ver P0 4=zP0+a0.bT.length/\nV m.hp W A AS LS a1.cC a1.cE a2/\(P0=P1)=False/\(P1=P0)=False/\m.gl 3=.eptr [(cA bY.C dR)] 0 0->SC prog 124 vs q m (fun v Y=>v=.tup []/\Y=(m.fr P0 P1 ((aN.C r.1.p_)++[.lit (.int .i64 r.1.eB),.lit (.int .i64 r.1.fQ),.lit (.int .i64 r.1.e_),.list .self (r.1.bT.map bC.C)]) (zP0+r.1.bT.length) (Cx W A r.2.1) (tF m.hp W r.2.1.cC AS r.2.2))/\eJ a1 a2 r.2.1 r.2.2)
def qL (f:aE->aJ->(List (List Int))->aH->Option (aE × aJ × (List (List Int)))):Prop:=∀a0 a1 a2 a3 r,f a0 a1 a2 a3=some r->∀(q:Pa) (m:M) (vs:List V) (P0:Pa) (P1:Pa) (zP0:Nat) (W A:Pa) (AS:List Pa) (LS:List Nat),vs.map V.weak1=[.ptr P0 0,.ptr P1 0,.agg ((aH.C a3))]/\m.blk P0=some ((aN.C a0.p_)++[.lit (.int .i64 a0.eB),.lit (.int .i64 a0.fQ),.lit (.int .i64 a0.e_),.list .self (a0.bT.map bC.C)])/\m.blk P1=some (Cx W A a1)/\m.ver P0 4=zP0+a0.bT.length/\nV m.hp W A AS LS a1.cC a1.cE a2/\(P0=P1)=False/\(P1=P0)=False/\m.gl 3=.eptr [(cA bY.C dR)] 0 0->SC prog 125 vs q m (fun v Y=>v=.tup []/\Y=(m.fr P0 P1 ((aN.C r.1.p_)++[.lit (.int .i64 r.1.eB),.lit (.int .i64 r.1.fQ),.lit (.int .i64 r.1.e_),.list .self (r.1.bT.map bC.C)]) (zP0+r.1.bT.length) (Cx W A r.2.1) (tF m.hp W r.2.1.cC AS r.2.2))/\eJ a1 a2 r.2.1 r.2.2)
theorem yW {eM} (wJ:pC eM) (n:Nat):jI (eH eM n):=by
 rintro a0 a1 a2 a3 r h q m vs P0 P1 zP0 W A AS LS ⟨hv,w0,w1,hvrP0,hkF,hn0_1,hn1_0,hg3⟩;refine SC.wv hv ?_;refine SC.apart w0 fun u0=>?_;refine SC.apart w1 fun u1=>?_;have l0:=nD w0;have l1:=nD w1
 try simp only [go_sem] at w0 l0
 try simp only [go_sem] at w1 l1
 have hfs:=Fj w0 hvrP0 w1;refine eD func47 call47 ntmps47 results47 ?_;unfold eH at h;refine aL ?_;refine bM ?_;obtain ⟨y6,j6,h⟩:=aA h;refine kX (fun c X Y=>∃v2 v3 v4 v5,dS eM a3 c v2 v3 v4 v5=some y6/\X 0=.ptr P0 0/\X 1=.ptr P1 0/\X 8=.list .none (a3.map aH.C)/\X 9=.lit (.int .i64 (a3.length:Int))/\X 10=.lit (.int .i64 v2)/\Y.blk P0=some ((aN.C v3.p_)++[.lit (.int .i64 v3.eB),.lit (.int .i64 v3.fQ),.lit (.int .i64 v3.e_),.list .self (v3.bT.map bC.C)])/\Y.blk P1=some (Cx W A v4)/\Y.ver P0 4=zP0+v3.bT.length/\Y.gl=m.gl/\Y.hp=tF m.hp W v4.cC AS v5/\eJ a1 a2 v4 v5/\m.back q Y=(m.fr P0 P1 ((aN.C v3.p_)++[.lit (.int .i64 v3.eB),.lit (.int .i64 v3.fQ),.lit (.int .i64 v3.e_),.list .self (v3.bT.map bC.C)]) (zP0+v3.bT.length) (Cx W A v4) (tF m.hp W v4.cC AS v5))) n ⟨(0:Int),a0,a1,a2,j6,?_⟩ ?_
 ·simp only [go_sem,seval,bK,hfs,nV.same hkF,hvrP0,w0,w1]
 rintro i1 c7 E8 m9 ⟨v2,v3,v4,v5,j6,e10⟩ _
 rcases c7 with _ | c7
 ·cases j6
 rw [dS] at j6;have kp11:eJ a1 a2 v4 v5:=by simp only [e10]
 have hk12:nV (tF m.hp W v4.cC AS v5) W A AS LS v4.cC v4.cE v5:=nV.upk hkF kp11;refine aL ?_;refine aF (bH j6 (fun c13 j6=>?_) (fun c13 j6=>?_))
 ·refine aU ?_
  refine aF ?_;obtain ⟨y14,j14,j6⟩:=aA j6;refine fX 16 (fun X Y=>∃(y14a:(aE × aJ × (List (List Int)))),y14=.inl y14a/\X 0=.ptr P0 0/\X 1=.ptr P1 0/\X 8=.list .none (a3.map aH.C)/\X 9=.lit (.int .i64 (a3.length:Int))/\X 10=.lit (.int .i64 v2)/\Y.blk P0=some ((aN.C y14a.1.p_)++[.lit (.int .i64 y14a.1.eB),.lit (.int .i64 y14a.1.fQ),.lit (.int .i64 y14a.1.e_),.list .self (y14a.1.bT.map bC.C)])/\Y.blk P1=some (Cx W A y14a.2.1)/\Y.ver P0 4=zP0+y14a.1.bT.length/\Y.gl=m.gl/\Y.hp=tF m.hp W y14a.2.1.cC AS y14a.2.2/\eJ a1 a2 y14a.2.1 y14a.2.2/\m.back q Y=(m.fr P0 P1 ((aN.C y14a.1.p_)++[.lit (.int .i64 y14a.1.eB),.lit (.int .i64 y14a.1.fQ),.lit (.int .i64 y14a.1.e_),.list .self (y14a.1.bT.map bC.C)]) (zP0+y14a.1.bT.length) (Cx W A y14a.2.1) (tF m.hp W y14a.2.1.cC AS y14a.2.2))) ?_ ?_
  ·refine bM (aF ?_);obtain ⟨x15,h20,j14⟩:=aA j14;obtain ⟨f17,f18,f19⟩:=aZ h20;refine cH ?_;refine aF (aF ?_);obtain ⟨x21,h22,j14⟩:=aA j14;refine aP fun K hK=>?_;simp only [go_sem,seval,e10];refine SC.bA (cW v3 _ h22 _ _ _ P0 zP0) ?_;simp only [go_sem,seval];apply hK;refine bH j14 (fun c23 j14=>?_) (fun c23 j14=>?_)
   ·refine aO ?_
    try simp only [aT,bI]
    obtain rfl:=bO j14;simp only [Es] at j6;obtain rfl:=bO j6;simp only [Es] at h;cases h;refine ⟨by simp,?_⟩;simp only [go_sem,bF,kp11,c23,e10]
   ·refine aU ?_
    refine aF ?_;obtain ⟨x24,h25,j14⟩:=aA j14;refine aP fun K hK=>?_;simp only [go_sem,seval,c23,e10];refine SC.bA (uM v3 _ h25 _ _ _ P0 zP0) ?_;simp only [go_sem,seval];apply hK;refine aF ?_;obtain ⟨x26,h27,j14⟩:=aA j14;refine aP fun K hK=>?_;simp only [go_sem,seval,e10];refine SC.bA (cW x24 _ h27 _ _ _ P0 zP0) ?_;simp only [go_sem,seval];apply hK;refine bH j14 (fun c28 j14=>?_) (fun c28 j14=>?_)
    ·obtain ⟨x29,h30,j14⟩:=aA j14;refine eR fun K hK=>?_;simp only [go_sem,seval,gZ u0,c28,e10];refine SC.mono (wJ x24 v4 v5 x15 _ h30 _ _ _ P0 P1 zP0 W A AS LS (by simp only [go_sem,seval,gZ u1,hn0_1,hn1_0,hk12,e10,hg3])) ?_;rintro _ _ ⟨rfl,rfl,kp_x29⟩;have kpc_x29:eJ a1 a2 x29.2.1 x29.2.2:=eJ.trans kp11 kp_x29;have hkc_x29:nV (tF m.hp W x29.2.1.cC AS x29.2.2) W A AS LS x29.2.1.cC x29.2.1.cE x29.2.2:=nV.upk hkF kpc_x29;simp only [go_sem,seval,e10];apply hK;simp only [aK,aQ];obtain rfl:=bO j14;refine ⟨by decide,(x29.1,x29.2.1,x29.2.2),rfl,?_⟩;simp only [go_sem,seval,bF,eX u0,Ar u0 u1,hn1_0,kpc_x29,e10]
    ·refine aU ?_
     try simp only [aK,aQ]
     obtain rfl:=bO j14;refine ⟨by decide,(x24,v4,v5),rfl,?_⟩;simp only [go_sem,seval,bF,eX u0,gZ u1,hn1_0,kp11,c28,e10]
  ·rintro E31 m32 ⟨y14a,rfl,e33⟩ _;simp only [GH] at j6;simp only [aK];have kp34:eJ a1 a2 y14a.2.1 y14a.2.2:=by simp only [e33]
   have hk35:nV (tF m.hp W y14a.2.1.cC AS y14a.2.2) W A AS LS y14a.2.1.cC y14a.2.1.cE y14a.2.2:=nV.upk hkF kp34;refine cH ?_;refine ⟨c7,xQ _,(i64.wrap (v2+(1:Int))),y14a.1,y14a.2.1,y14a.2.2,j6,?_⟩;simp only [go_sem,seval,kp34,e33]
 ·refine dQ ?_
  try simp only [bZ,bR,↓reduceIte]
  obtain rfl:=bO j6;simp only [GH] at h;cases h;refine ⟨by simp,?_⟩;simp only [go_sem,kp11,c13,e10]
theorem wG {nY} (Ah:rP nY) {lS} (yA:qM lS) {lR} (xZ:qL lR) (n:Nat):pC (dP nY lS lR n):=by
 rintro a0 a1 a2 a3 r h q m vs P0 P1 zP0 W A AS LS ⟨hv,w0,w1,hvrP0,hkF,hn0_1,hn1_0,hg3⟩;refine SC.wv hv ?_;refine SC.apart w0 fun u0=>?_;refine SC.apart w1 fun u1=>?_;have l0:=nD w0;have l1:=nD w1
 try simp only [go_sem] at w0 l0
 try simp only [go_sem] at w1 l1
 have hfs:=Fj w0 hvrP0 w1;refine eD func77 call77 ntmps77 results77 ?_;unfold dP at h;refine aL ?_;refine aL ?_;refine bM (aF (aL ?_));refine bH h (fun c2 h=>?_) (fun c2 h=>?_)
 ·refine aU ?_
  refine iF true (by simp only [go_sem,seval,c2]) ?_;simp only [↓reduceIte];refine aF ?_;obtain ⟨x3,h8,h⟩:=aA h;obtain ⟨f5,f6,f7⟩:=aZ h8;have f9:a3.aM[0]? = some x3:=f7;obtain ⟨x4,h10,h⟩:=aA h;refine aP fun K hK=>?_;simp only [go_sem,seval,c2,f5,f6,f9];refine SC.by_ (fH n a0 a1 a2 x3 _ h10 _ _ _ P0 P1 zP0 W A AS LS (by simp only [go_sem,seval,eO u0,eO u1,hkF,hn0_1,hn1_0,w0,hvrP0,w1,hg3])) ?_;simp only [go_sem,seval];apply hK;refine aF ?_;obtain ⟨x11,h12,h⟩:=aA h;refine aP fun K hK=>?_;simp only [go_sem,seval];refine SC.bA (cW x4.2 _ h12 _ _ _ P0 zP0) ?_;simp only [go_sem,seval];apply hK;refine bH h (fun c13 h=>?_) (fun c13 h=>?_)
  ·obtain ⟨x14,h15,h⟩:=aA h;refine eR fun K hK=>?_;simp only [go_sem,seval,eO u0,c13];refine SC.mono (kO a1 a2 a3.lO x4.1 _ h15 _ _ _ P1 W A AS LS (by simp only [go_sem,seval,eO u1,hkF,hn1_0,w1])) ?_;rintro _ _ ⟨rfl,rfl,kp_x14⟩;have kpc_x14:eJ a1 a2 x14.1 x14.2:=eJ.trans eJ.refl kp_x14;have hkc_x14:nV (tF m.hp W x14.1.cC AS x14.2) W A AS LS x14.1.cC x14.1.cE x14.2:=nV.upk hkF kpc_x14;simp only [go_sem,seval];apply hK;simp only [aQ];cases h;refine ⟨by simp,?_⟩;simp only [go_sem,bF,bK,gQ,dG u1,eX u0,Cw hn1_0,oO w1,kpc_x14]
  ·refine aU ?_
   try simp only [aQ]
   cases h;refine ⟨by simp,?_⟩;simp only [go_sem,bF,bK,eX u0,oO w1,nV.same hkF,c13]
 ·refine aL ?_;refine bH h (fun c16 h=>?_) (fun c16 h=>?_)
  ·refine aU ?_
   refine iF true (by simp only [go_sem,seval,c16]) ?_;simp only [↓reduceIte];refine aF ?_;obtain ⟨x17,h22,h⟩:=aA h;obtain ⟨f19,f20,f21⟩:=aZ h22;have f23:a3.aM[0]? = some x17:=f21;obtain ⟨x18,h24,h⟩:=aA h;refine aP fun K hK=>?_;simp only [go_sem,seval,c16,f19,f20,f23];refine SC.by_ (fH n a0 a1 a2 x17 _ h24 _ _ _ P0 P1 zP0 W A AS LS (by simp only [go_sem,seval,eO u0,eO u1,hkF,hn0_1,hn1_0,w0,hvrP0,w1,hg3])) ?_;simp only [go_sem,seval];apply hK;refine aF ?_;obtain ⟨x25,h26,h⟩:=aA h;refine aP fun K hK=>?_;simp only [go_sem,seval];refine SC.bA (cW x18.2 _ h26 _ _ _ P0 zP0) ?_;simp only [go_sem,seval];apply hK;refine bH h (fun c27 h=>?_) (fun c27 h=>?_)
   ·obtain ⟨x28,h29,h⟩:=aA h;refine eR fun K hK=>?_;simp only [go_sem,seval,eO u0,c27];refine SC.mono (kO a1 a2 a3.lO x18.1 _ h29 _ _ _ P1 W A AS LS (by simp only [go_sem,seval,eO u1,hkF,hn1_0,w1])) ?_;rintro _ _ ⟨rfl,rfl,kp_x28⟩;have kpc_x28:eJ a1 a2 x28.1 x28.2:=eJ.trans eJ.refl kp_x28;have hkc_x28:nV (tF m.hp W x28.1.cC AS x28.2) W A AS LS x28.1.cC x28.1.cE x28.2:=nV.upk hkF kpc_x28;simp only [go_sem,seval];apply hK;simp only [aQ];cases h;refine ⟨by simp,?_⟩;simp only [go_sem,bF,bK,gQ,dG u1,eX u0,Cw hn1_0,oO w1,kpc_x28]
   ·refine aU ?_
    try simp only [aQ]
    cases h;refine ⟨by simp,?_⟩;simp only [go_sem,bF,bK,eX u0,oO w1,nV.same hkF,c27]
  ·refine cH ?_;refine bH h (fun c30 h=>?_) (fun c30 h=>?_)
   ·refine aF ?_;obtain ⟨x31,h36,h⟩:=aA h;obtain ⟨f33,f34,f35⟩:=aZ h36;have f37:a3.aM[0]? = some x31:=f35;obtain ⟨x32,h38,h⟩:=aA h;refine aP fun K hK=>?_;simp only [go_sem,seval,c30,f33,f34,f37];refine SC.by_ (fH n a0 a1 a2 x31 _ h38 _ _ _ P0 P1 zP0 W A AS LS (by simp only [go_sem,seval,eO u0,eO u1,hkF,hn0_1,hn1_0,w0,hvrP0,w1,hg3])) ?_;simp only [go_sem,seval];apply hK;refine aF ?_;obtain ⟨x39,h40,h⟩:=aA h;refine aP fun K hK=>?_;simp only [go_sem,seval];refine SC.bA (cW x32.2 _ h40 _ _ _ P0 zP0) ?_;simp only [go_sem,seval];apply hK;refine bH h (fun c41 h=>?_) (fun c41 h=>?_)
    ·obtain ⟨x42,h43,h⟩:=aA h;refine eR fun K hK=>?_;simp only [go_sem,seval,eO u0,c41];refine SC.mono (kO a1 a2 a3.lO x32.1 _ h43 _ _ _ P1 W A AS LS (by simp only [go_sem,seval,eO u1,hkF,hn1_0,w1])) ?_;rintro _ _ ⟨rfl,rfl,kp_x42⟩;have kpc_x42:eJ a1 a2 x42.1 x42.2:=eJ.trans eJ.refl kp_x42;have hkc_x42:nV (tF m.hp W x42.1.cC AS x42.2) W A AS LS x42.1.cC x42.1.cE x42.2:=nV.upk hkF kpc_x42;simp only [go_sem,seval];apply hK;simp only [aQ];cases h;refine ⟨by simp,?_⟩;simp only [go_sem,bF,bK,gQ,dG u1,eX u0,Cw hn1_0,oO w1,kpc_x42]
    ·refine aU ?_
     try simp only [aQ]
     cases h;refine ⟨by simp,?_⟩;simp only [go_sem,bF,bK,eX u0,oO w1,nV.same hkF,c41]
   ·refine aL ?_;refine bH h (fun c44 h=>?_) (fun c44 h=>?_)
    ·obtain ⟨x45,h53,h⟩:=aA h;obtain ⟨f50,f51,f52⟩:=aZ h53;obtain ⟨w54,d55⟩:=sC (f:=(xL AS LS)) f52;obtain ⟨x46,h59,h⟩:=aA h;obtain ⟨f56,f57,f58⟩:=aZ h59;have hx_a_47:=f58;obtain ⟨a_47,d60,d61,ex_a_47,nw_a_47,na_a_47⟩:=nV.get hkF f56 f58;obtain ⟨f62,h⟩:=bP h;have kp48:eJ a1 a2 a1 (a2.set x45.toNat (List.replicate x46.length (0:Int))):=eJ.setA eJ.refl hx_a_47 PQ;have hk49:nV (tF m.hp W a1.cC AS (a2.set x45.toNat (List.replicate x46.length (0:Int)))) W A AS LS a1.cC a1.cE (a2.set x45.toNat (List.replicate x46.length (0:Int))):=nV.upk hkF kp48;refine eC (o0 [0,1,2,3,4,5,6,7,8]) 20 fun K hK=>?_;simp only [go_sem,seval,qH,eO u1,hkF.a,c44,f50,f51,d55,d60,d61,f62,(nV.setA hkF ex_a_47),clr_eq,w1];apply hK;simp only [aQ];cases h;refine ⟨by simp,?_⟩;simp only [go_sem,bF,bK,gQ,QI hfs,kp48]
    ·refine aL ?_;refine bH h (fun c63 h=>?_) (fun c63 h=>?_)
     ·obtain ⟨x64,h65,h⟩:=aA h;refine eR fun K hK=>?_;simp only [go_sem,seval,c63];refine SC.mono (AI n a0 a1 a2 a3 _ h65 _ _ _ P0 P1 zP0 W A AS LS (by simp only [go_sem,seval,eO u0,eO u1,hkF,hn0_1,hn1_0,w0,hvrP0,w1,hg3])) ?_;rintro _ _ ⟨rfl,rfl,kp_x64⟩;have kpc_x64:eJ a1 a2 x64.2.1 x64.2.2:=eJ.trans eJ.refl kp_x64;have hkc_x64:nV (tF m.hp W x64.2.1.cC AS x64.2.2) W A AS LS x64.2.1.cC x64.2.1.cE x64.2.2:=nV.upk hkF kpc_x64;simp only [go_sem,seval];apply hK;simp only [aQ];cases h;refine ⟨by simp,?_⟩;simp only [go_sem,bF,bK,Ar u0 u1,kpc_x64]
     ·refine aL ?_;refine bH h (fun c66 h=>?_) (fun c66 h=>?_)
      ·obtain ⟨x67,h68,h⟩:=aA h;refine eR fun K hK=>?_;simp only [go_sem,seval,c66];refine SC.mono (Ah a0 a1 a2 a3 _ h68 _ _ _ P0 P1 zP0 W A AS LS (by simp only [go_sem,seval,eO u0,eO u1,hkF,hn0_1,hn1_0,w0,hvrP0,w1,hg3])) ?_;rintro _ _ ⟨rfl,rfl,kp_x67⟩;have kpc_x67:eJ a1 a2 x67.2.1 x67.2.2:=eJ.trans eJ.refl kp_x67;have hkc_x67:nV (tF m.hp W x67.2.1.cC AS x67.2.2) W A AS LS x67.2.1.cC x67.2.1.cE x67.2.2:=nV.upk hkF kpc_x67;simp only [go_sem,seval];apply hK;simp only [aQ];cases h;refine ⟨by simp,?_⟩;simp only [go_sem,bF,bK,Ar u0 u1,kpc_x67]
      ·refine aL ?_;refine bH h (fun c69 h=>?_) (fun c69 h=>?_)
       ·obtain ⟨x70,h71,h⟩:=aA h;refine eR fun K hK=>?_;simp only [go_sem,seval,c69];refine SC.mono (yA a0 a1 a2 a3 _ h71 _ _ _ P0 P1 zP0 W A AS LS (by simp only [go_sem,seval,eO u0,eO u1,hkF,hn0_1,hn1_0,w0,hvrP0,w1,hg3])) ?_;rintro _ _ ⟨rfl,rfl,kp_x70⟩;have kpc_x70:eJ a1 a2 x70.2.1 x70.2.2:=eJ.trans eJ.refl kp_x70;have hkc_x70:nV (tF m.hp W x70.2.1.cC AS x70.2.2) W A AS LS x70.2.1.cC x70.2.1.cE x70.2.2:=nV.upk hkF kpc_x70;simp only [go_sem,seval];apply hK;simp only [aQ];cases h;refine ⟨by simp,?_⟩;simp only [go_sem,bF,bK,Ar u0 u1,kpc_x70]
       ·refine aL ?_;refine bH h (fun c72 h=>?_) (fun c72 h=>?_)
        ·obtain ⟨x73,h74,h⟩:=aA h;refine eR fun K hK=>?_;simp only [go_sem,seval,c72];refine SC.mono (xZ a0 a1 a2 a3 _ h74 _ _ _ P0 P1 zP0 W A AS LS (by simp only [go_sem,seval,eO u0,eO u1,hkF,hn0_1,hn1_0,w0,hvrP0,w1,hg3])) ?_;rintro _ _ ⟨rfl,rfl,kp_x73⟩;have kpc_x73:eJ a1 a2 x73.2.1 x73.2.2:=eJ.trans eJ.refl kp_x73;have hkc_x73:nV (tF m.hp W x73.2.1.cC AS x73.2.2) W A AS LS x73.2.1.cC x73.2.1.cE x73.2.2:=nV.upk hkF kpc_x73;simp only [go_sem,seval];apply hK;simp only [aQ];cases h;refine ⟨by simp,?_⟩;simp only [go_sem,bF,bK,Ar u0 u1,kpc_x73]
        ·refine aL ?_;refine bH h (fun c75 h=>?_) (fun c75 h=>?_)
         ·obtain ⟨x76,h82,h⟩:=aA h;obtain ⟨f79,f80,f81⟩:=aZ h82;have f83:a3.aM[0]? = some x76:=f81;obtain ⟨x77,h84,h⟩:=aA h;have kp78:eJ a1 a2 ({ a1 with oP:=x77.1 }:aJ) a2:=eJ.res eJ.refl;refine eR fun K hK=>?_;simp only [go_sem,seval,c75,f79,f80,f83];refine SC.by_ (fH n a0 a1 a2 x76 _ h84 _ _ _ P0 P1 zP0 W A AS LS (by simp only [go_sem,seval,eO u0,eO u1,hkF,hn0_1,hn1_0,w0,hvrP0,w1,hg3])) ?_;simp only [go_sem,seval,eO u1,hn1_0,w1];apply hK;simp only [aQ];cases h;refine ⟨by simp,?_⟩;simp only [go_sem,bF,bK,dG u1,eX u0,Cw hn1_0,oO w1,nV.same hkF,kp78]
         ·refine aU ?_
          try simp only [aQ]
          cases h;refine ⟨by simp,?_⟩;simp only [go_sem,bF,bK,hfs,nV.same hkF,c75]
theorem zV {cJ} (iE:jI cJ) (n:Nat):rP (dT cJ n):=Pv iE n
theorem xU {cJ} (iE:jI cJ) (n:Nat):qM (eA cJ n):=by
 rintro a0 a1 a2 a3 r h q m vs P0 P1 zP0 W A AS LS ⟨hv,w0,w1,hvrP0,hkF,hn0_1,hn1_0,hg3⟩;refine SC.wv hv ?_;refine SC.apart w0 fun u0=>?_;refine SC.apart w1 fun u1=>?_;have l0:=nD w0;have l1:=nD w1
 try simp only [go_sem] at w0 l0
 try simp only [go_sem] at w1 l1
 have hfs:=Fj w0 hvrP0 w1;refine eD func124 call124 ntmps124 results124 ?_;unfold eA at h;refine aL ?_;refine aF ?_;obtain ⟨x2,h7,h⟩:=aA h;obtain ⟨f4,f5,f6⟩:=aZ h7;have f8:a3.aM[0]? = some x2:=f6;obtain ⟨x3,h9,h⟩:=aA h;refine aP fun K hK=>?_;simp only [go_sem,seval,f4,f5,f8];refine SC.by_ (fH n a0 a1 a2 x2 _ h9 _ _ _ P0 P1 zP0 W A AS LS (by simp only [go_sem,seval,eO u0,eO u1,hkF,hn0_1,hn1_0,w0,hvrP0,w1,hg3])) ?_;simp only [go_sem,seval];apply hK;refine aF (aF ?_);obtain ⟨x10,h11,h⟩:=aA h;refine aP fun K hK=>?_;simp only [go_sem,seval];refine SC.bA (cW x3.2 _ h11 _ _ _ P0 zP0) ?_;simp only [go_sem,seval];apply hK;refine bH h (fun c12 h=>?_) (fun c12 h=>?_)
 ·refine aO ?_
  try simp only [aT]
  cases h;refine ⟨by simp,?_⟩;simp only [go_sem,bF,bK,eX u0,oO w1,nV.same hkF,c12]
 ·refine aU ?_
  refine aF (aL ?_);refine bH h (fun c13 h=>?_) (fun c13 h=>?_)
  ·refine aF ?_;obtain ⟨x14,h15,h⟩:=aA h;refine aP fun K hK=>?_;simp only [go_sem,seval,c13];refine SC.bA (kC x3.2 (1:Int) (1:Int) (0:Int) _ h15 _ _ _ P0 zP0) ?_;simp only [go_sem,seval];apply hK;refine aF ?_;obtain ⟨x16,h17,h⟩:=aA h;refine aP fun K hK=>?_;simp only [go_sem,seval,eO u0];refine SC.mono (iE x14 a1 a2 a3.eK _ h17 _ _ _ P0 P1 zP0 W A AS LS (by simp only [go_sem,seval,eO u1,hkF,hn0_1,hn1_0,w1,hg3])) ?_;rintro _ _ ⟨rfl,rfl,kp_x16⟩;have kpc_x16:eJ a1 a2 x16.2.1 x16.2.2:=eJ.trans eJ.refl kp_x16;have hkc_x16:nV (tF m.hp W x16.2.1.cC AS x16.2.2) W A AS LS x16.2.1.cC x16.2.1.cE x16.2.2:=nV.upk hkF kpc_x16;simp only [go_sem,seval];apply hK;refine aO ?_
   try simp only [aT]
   cases h;refine ⟨by simp,?_⟩;simp only [go_sem,bF,bK,eX u0,Ar u0 u1,oO w1,kpc_x16]
  ·refine aU ?_
   refine aF ?_;obtain ⟨x18,h19,h⟩:=aA h;refine aP fun K hK=>?_;simp only [go_sem,seval,c13];refine SC.bA (kC x3.2 (1:Int) (0:Int) (0:Int) _ h19 _ _ _ P0 zP0) ?_;simp only [go_sem,seval];apply hK;obtain ⟨x20,h21,h⟩:=aA h;refine eR fun K hK=>?_;simp only [go_sem,seval,eO u0];refine SC.mono (iE x18 a1 a2 a3.sX _ h21 _ _ _ P0 P1 zP0 W A AS LS (by simp only [go_sem,seval,eO u1,hkF,hn0_1,hn1_0,w1,hg3])) ?_;rintro _ _ ⟨rfl,rfl,kp_x20⟩;have kpc_x20:eJ a1 a2 x20.2.1 x20.2.2:=eJ.trans eJ.refl kp_x20;have hkc_x20:nV (tF m.hp W x20.2.1.cC AS x20.2.2) W A AS LS x20.2.1.cC x20.2.1.cE x20.2.2:=nV.upk hkF kpc_x20;simp only [go_sem,seval];apply hK;simp only [];cases h;refine ⟨by simp,?_⟩;simp only [go_sem,bF,bK,eX u0,Ar u0 u1,oO w1,kpc_x20]
theorem xT {cJ} (iE:jI cJ) (n:Nat):qL (dZ cJ n):=by
 rintro a0 a1 a2 a3 r h q m vs P0 P1 zP0 W A AS LS ⟨hv,w0,w1,hvrP0,hkF,hn0_1,hn1_0,hg3⟩;refine SC.wv hv ?_;refine SC.apart w0 fun u0=>?_;refine SC.apart w1 fun u1=>?_;have l0:=nD w0;have l1:=nD w1
 try simp only [go_sem] at w0 l0
 try simp only [go_sem] at w1 l1
 have hfs:=Fj w0 hvrP0 w1;refine eD func125 call125 ntmps125 results125 ?_;unfold dZ at h;refine aL ?_;refine aF ?_;obtain ⟨x2,h7,h⟩:=aA h;obtain ⟨f4,f5,f6⟩:=aZ h7;have f8:a3.aM[0]? = some x2:=f6;obtain ⟨x3,h9,h⟩:=aA h;refine aP fun K hK=>?_;simp only [go_sem,seval,f4,f5,f8];refine SC.by_ (fH n a0 a1 a2 x2 _ h9 _ _ _ P0 P1 zP0 W A AS LS (by simp only [go_sem,seval,gZ u0,gZ u1,hkF,hn0_1,hn1_0,w0,hvrP0,w1,hg3])) ?_;simp only [go_sem,seval];apply hK;refine aF (aF ?_);obtain ⟨x10,h11,h⟩:=aA h;refine aP fun K hK=>?_;simp only [go_sem,seval];refine SC.bA (cW x3.2 _ h11 _ _ _ P0 zP0) ?_;simp only [go_sem,seval];apply hK;refine bH h (fun c12 h=>?_) (fun c12 h=>?_)
 ·refine aO ?_
  try simp only [aT]
  cases h;refine ⟨by simp,?_⟩;simp only [go_sem,bF,bK,eX u0,oO w1,nV.same hkF,c12]
 ·refine aU ?_
  refine aF ?_;obtain ⟨x13,h18,h⟩:=aA h;obtain ⟨f15,f16,f17⟩:=aZ h18;have f19:a3.aM[1]? = some x13:=f17;obtain ⟨x14,h20,h⟩:=aA h;refine aP fun K hK=>?_;simp only [go_sem,seval,gZ u0,c12,f15,f16,f19];refine SC.by_ (fH n x3.2 a1 a2 x13 _ h20 _ _ _ P0 P1 zP0 W A AS LS (by simp only [go_sem,seval,gZ u1,hkF,hn0_1,hn1_0,w1,hg3])) ?_;simp only [go_sem,seval];apply hK;refine aF (aF ?_);obtain ⟨x21,h22,h⟩:=aA h;refine aP fun K hK=>?_;simp only [go_sem,seval];refine SC.bA (cW x14.2 _ h22 _ _ _ P0 zP0) ?_;simp only [go_sem,seval];apply hK;refine bH h (fun c23 h=>?_) (fun c23 h=>?_)
  ·refine aO ?_
   try simp only [aT]
   cases h;refine ⟨by simp,?_⟩;simp only [go_sem,bF,bK,eX u0,oO w1,nV.same hkF,c23]
  ·refine aU ?_
   refine aF ?_;obtain ⟨x24,h25,h⟩:=aA h;refine aP fun K hK=>?_;simp only [go_sem,seval,c23];refine SC.bA (kC x14.2 (2:Int) (u32.wrap x3.1) (u32.wrap x14.1) _ h25 _ _ _ P0 zP0) ?_;simp only [go_sem,seval];apply hK;refine aL ?_;refine bM ?_;obtain ⟨y31,j31,h⟩:=aA h;refine kX (fun c X Y=>∃v27 v28 v29 v30,fB cJ x14 a3 c v27 v28 v29 v30=some y31/\X 0=.ptr P0 0/\X 1=.ptr P1 0/\X 5=.ptr (0::q) 0/\X 7=.lit (.int .u32 (u32.wrap x14.1))/\X 8=.lit (.int .u32 v27)/\Y.blk P0=some ((aN.C v28.p_)++[.lit (.int .i64 v28.eB),.lit (.int .i64 v28.fQ),.lit (.int .i64 v28.e_),.list .self (v28.bT.map bC.C)])/\Y.blk P1=some (Cx W A v29)/\Y.blk (0::q)=some ((aH.C a3))/\Y.ver P0 4=zP0+v28.bT.length/\Y.gl=m.gl/\Y.hp=tF m.hp W v29.cC AS v30/\eJ a1 a2 v29 v30/\m.back q Y=(m.fr P0 P1 ((aN.C v28.p_)++[.lit (.int .i64 v28.eB),.lit (.int .i64 v28.fQ),.lit (.int .i64 v28.e_),.list .self (v28.bT.map bC.C)]) (zP0+v28.bT.length) (Cx W A v29) (tF m.hp W v29.cC AS v30))) n ⟨(u32.wrap x3.1),x24,a1,a2,j31,?_⟩ ?_
   ·simp only [go_sem,seval,bF,bK,eX u0,oO w1,nV.same hkF,gZ u0,gZ u1,hn1_0,w1]
   rintro i26 c32 E33 m34 ⟨v27,v28,v29,v30,j31,e35⟩ _
   rcases c32 with _ | c32
   ·cases j31
   rw [fB] at j31;have kp36:eJ a1 a2 v29 v30:=by simp only [e35]
   have hk37:nV (tF m.hp W v29.cC AS v30) W A AS LS v29.cC v29.cE v30:=nV.upk hkF kp36;refine aF (aF ?_);obtain ⟨y38,j38,j31⟩:=aA j31;refine fX 8 (fun X Y=>X 0=.ptr P0 0/\X 1=.ptr P1 0/\X 5=.ptr (0::q) 0/\X 7=.lit (.int .u32 (u32.wrap x14.1))/\X 8=.lit (.int .u32 v27)/\X 41=.lit (.bool y38)/\Y.blk P0=some ((aN.C v28.p_)++[.lit (.int .i64 v28.eB),.lit (.int .i64 v28.fQ),.lit (.int .i64 v28.e_),.list .self (v28.bT.map bC.C)])/\Y.blk P1=some (Cx W A v29)/\Y.blk (0::q)=some ((aH.C a3))/\Y.ver P0 4=zP0+v28.bT.length/\Y.gl=m.gl/\Y.hp=tF m.hp W v29.cC AS v30/\eJ a1 a2 v29 v30/\m.back q Y=(m.fr P0 P1 ((aN.C v28.p_)++[.lit (.int .i64 v28.eB),.lit (.int .i64 v28.fQ),.lit (.int .i64 v28.e_),.list .self (v28.bT.map bC.C)]) (zP0+v28.bT.length) (Cx W A v29) (tF m.hp W v29.cC AS v30))) ?_ ?_
   ·rcases dD j38 with ⟨c39,j38⟩ | ⟨c39,j38⟩
    ·obtain ⟨x40,h41,j38⟩:=aA j38;refine aP fun K hK=>?_;simp only [go_sem,seval,c39,e35];refine SC.bA (cW v28 _ h41 _ _ _ P0 zP0) ?_;simp only [go_sem,seval];apply hK;obtain rfl:=bO j38;refine ⟨by decide,?_⟩;simp only [go_sem,seval,kp36,e35]
    ·refine cH ?_;obtain rfl:=bO j38;refine ⟨by decide,?_⟩;simp only [go_sem,seval,kp36,e35]
   ·intro E42 m43 e44 _;refine bH j31 (fun c45 j31=>?_) (fun c45 j31=>?_)
    ·refine aU ?_
     refine aF (bM (aF ?_));obtain ⟨x46,h47,j31⟩:=aA j31;refine aP fun K hK=>?_;simp only [go_sem,seval,e44];refine SC.bA (uM v28 _ h47 _ _ _ P0 zP0) ?_;simp only [go_sem,seval];apply hK;refine aF ?_;obtain ⟨x48,h49,j31⟩:=aA j31;refine aP fun K hK=>?_;simp only [go_sem,seval,gZ u0,e44];refine SC.mono (kO v29 v30 a3.lO (u64.wrap v27) _ h49 _ _ _ P1 W A AS LS (by simp only [go_sem,seval,hn1_0,hk37,e44])) ?_;rintro _ _ ⟨rfl,rfl,kp_x48⟩;have kpc_x48:eJ a1 a2 x48.1 x48.2:=eJ.trans kp36 kp_x48;have hkc_x48:nV (tF m.hp W x48.1.cC AS x48.2) W A AS LS x48.1.cC x48.1.cE x48.2:=nV.upk hkF kpc_x48;simp only [go_sem,seval,e44];apply hK;obtain ⟨x50,h51,j31⟩:=aA j31;refine eR fun K hK=>?_;simp only [go_sem,seval,gZ u0,gZ u1,e44];refine SC.mono (iE x46 x48.1 x48.2 a3.eK _ h51 _ _ _ P0 P1 zP0 W A AS LS (by simp only [go_sem,seval,hn0_1,hn1_0,hkc_x48,e44,hg3])) ?_;rintro _ _ ⟨rfl,rfl,kp_x50⟩;have kpc_x50:eJ a1 a2 x50.2.1 x50.2.2:=eJ.trans kpc_x48 kp_x50;have hkc_x50:nV (tF m.hp W x50.2.1.cC AS x50.2.2) W A AS LS x50.2.1.cC x50.2.1.cE x50.2.2:=nV.upk hkF kpc_x50;simp only [go_sem,seval];apply hK;simp only [aK,aQ];refine cH ?_;refine ⟨c32,xQ _,(u32.wrap (v27+(1:Int))),x50.1,x50.2.1,x50.2.2,j31,?_⟩;simp only [go_sem,seval,dG u1,eX u0,Ar u0 u1,Cw hn1_0,gZ u0,gZ u1,hn1_0,kpc_x50,e44]
    ·refine dQ ?_
     try simp only [bZ,bR,↓reduceIte]
     obtain rfl:=bO j31;cases h;refine ⟨by simp,?_⟩;simp only [go_sem,kp36,e44]
theorem rY:∀n,jI (cV n)/\pC (fA n)/\rP (gU n)/\qM (gF n)/\qL (gE n)
 | 0=>⟨fun _ _ _ _ _ h=>fM h,fun _ _ _ _ _ h=>fM h,fun _ _ _ _ _ h=>fM h,fun _ _ _ _ _ h=>fM h,fun _ _ _ _ _ h=>fM h⟩
 | n+1=>
   have ih:=rY n
   ⟨yW ih.2.1 n,wG ih.2.2.1 ih.2.2.2.1 ih.2.2.2.2 n,zV ih.1 n,xU ih.1 n,xT ih.1 n⟩
theorem AK (n:Nat):jI (cV n):=(rY n).1
end Go.Proofs.YtncembphlfbgoaaGreatDoor.Abs
