/- Lemmas of ours. -/
import Derived.Test.YtncembphlfbgoaaGreatDoorIFGMw0
namespace Go.Proofs.YtncembphlfbgoaaGreatDoor.Abs
open Go.RowKit Tryz
open IntKind (i64 u32 u64 u8)
set_option linter.unusedVariables false
set_option maxRecDepth 10000
def Cb (f:aD->aI->Int->Int->Option aI):Prop:=∀a0 a1 a2 a3 r,f a0 a1 a2 a3=some r->∀(q:Pa) (m:M) (vs:List V) (P0:Pa) (F0 fp0 S0 C0:V),vs.map V.weak1=[.ptr P0 0,.lit (.int .i64 a2),.lit (.int .i64 a3)]/\m.blk P0=some (nU F0 fp0 S0 C0 a0 a1)/\eJ F0 fp0 S0 C0 m.hp a0->SC prog 60 vs q m (fun v m'=>v=.tup []/\m'=(m.set P0 (nU F0 fp0 S0 C0 a0 r)))
theorem Bl:Cb (pT):=by
 rintro a0 a1 a2 a3 r h q m vs P0 F0 fp0 S0 C0 ⟨hv,w0,t0⟩;refine SC.wv hv ?_;refine SC.ap w0 fun u0 l0=>?_
 try simp only [go_sem] at w0 l0
 refine dZ func60 call60 ntmps60 results60 ?_;unfold pT at h;refine aM ?_;simp only [go_sem,seval,w0];refine bJ h (fun c1 h=>?_) (fun c1 h=>?_)
 ·refine fB fun _ z=>?_;simp only [go_sem,seval,c1,w0];apply z;simp only [];cases h;refine ⟨by simp,?_⟩;simp only [go_sem,aJ,bF u0]
 ·refine aV ?_;cases h;refine ⟨by simp,?_⟩;simp only [go_sem,aJ,l0,c1]
def BW (f:aD->aI->Bool->Int->Int->Option aI):Prop:=∀a0 a1 a2 a3 a4 r,f a0 a1 a2 a3 a4=some r->∀(q:Pa) (m:M) (vs:List V) (P0:Pa) (F0 fp0 S0 C0:V),vs.map V.weak1=[.ptr P0 0,.lit (.bool a2),.lit (.int .i64 a3),.lit (.int .i64 a4)]/\m.blk P0=some (nU F0 fp0 S0 C0 a0 a1)/\eJ F0 fp0 S0 C0 m.hp a0->SC prog 29 vs q m (fun v m'=>v=.tup []/\m'=(m.set P0 (nU F0 fp0 S0 C0 a0 r)))
theorem aT:BW (aW):=by
 rintro a0 a1 a2 a3 a4 r h q m vs P0 F0 fp0 S0 C0 ⟨hv,w0,t0⟩;refine SC.wv hv ?_;refine SC.ap w0 fun u0 l0=>?_
 try simp only [go_sem] at w0 l0
 refine dZ func29 call29 ntmps29 results29 ?_;unfold aW at h;refine aM ?_;simp only [go_sem,seval];refine bJ h (fun c1 h=>?_) (fun c1 h=>?_)
 ·obtain ⟨x2,h3,h⟩:=aA h;refine fB fun _ z=>?_;simp only [go_sem,seval,c1];refine SC.by_ (Bl a0 a1 a3 a4 _ h3 _ _ _ P0 F0 fp0 S0 C0 (by simp only [go_sem,t0,w0])) ?_;simp only [go_sem,seval];apply z;simp only [];cases h;refine ⟨by simp,?_⟩;simp only [go_sem,aJ,bF u0]
 ·refine aV ?_;cases h;refine ⟨by simp,?_⟩;simp only [go_sem,aJ,l0,c1]
def Jj (f:cR->Option Int):Prop:=∀a0 r,f a0=some r->∀(q:Pa) (m:M) (vs:List V),vs.map V.weak1=[.lit (.string (bs a0))]/\m.gl 0=.eptr [(cA bM.C cZ)] 0 0->SC prog 53 vs q m (fun v m'=>v=.lit (.int .i64 r)/\m'=m)
theorem AO (n:Nat):Jj (tO n):=by
 rintro a0 r h q m vs ⟨hv,hg0⟩;refine SC.wv hv (dZ func53 call53 ntmps53 results53 ?_);unfold tO at h;refine aM ?_;simp only [go_sem];refine aF (aM ?_);simp only [go_sem,seval,hg0];refine bN ?_;obtain ⟨y3,hy3,h⟩:=aA h;refine kN (fun c E' m'=>∃v2,qE a0 c v2=some y3/\E' 0=.lit (.string (bs a0))/\E' 5=.agg ((cA bM.C cZ))/\E' 6=.lit (.int .i64 v2)/\m'.gl=m.gl/\m.back q m'=m) n ⟨0,hy3,?_⟩ ?_
 ·simp only [go_sem,seval,aJ]
 rintro i1 c4 E5 m6 ⟨v2,hy3,e7⟩ _
 rcases c4 with _ | c4
 ·cases hy3
 rw [qE] at hy3;refine aM ?_;simp only [go_sem,e7];refine aF (bJ hy3 (fun c8 hy3=>?_) (fun c8 hy3=>?_))
 ·refine aV ?_
  refine aF (bN (aF ?_));obtain ⟨x9,h14,hy3⟩:=aA hy3;obtain ⟨f11,f12,f13⟩:=aX h14;have f15:v2<5:=f12;obtain ⟨w16,d17⟩:=Co (f:=bM.C) (s:=2) (fun _ _=>rfl) f13;simp only [go_sem] at d17;refine aN fun _ z=>?_;simp only [go_sem,seval,f11,f15,d17,e7];apply z;refine aM ?_;simp only [go_sem,seval,e7];refine bJ hy3 (fun c18 hy3=>?_) (fun c18 hy3=>?_)
  ·refine aM ?_;simp only [go_sem,seval,c18];refine aQ ?_
   try simp only [aU,bK]
   cases hy3;simp only [DX] at h;cases h;refine ⟨by simp,?_⟩;simp only [go_sem,seval,aO,e7]
  ·refine aV ?_
   try simp only [aL,aS]
   refine aN fun _ z=>?_;simp only [go_sem,seval,c18,e7];apply z;refine ⟨c4,xH _,(i64.wrap (v2+1)),hy3,?_⟩;simp only [go_sem,seval,aO,e7]
 ·refine dQ ?_
  try simp only [bZ,bR,↓reduceIte,aL]
  cases hy3;simp only [FW] at h;refine aM ?_;simp only [go_sem,seval,c8];refine aQ ?_;cases h;refine ⟨by simp,?_⟩;simp only [go_sem,seval,e7]
def Hf (f:Int->Option Int):Prop:=∀a0 r,f a0=some r->∀(q:Pa) (m:M) (vs:List V),vs.map V.weak1=[.lit (.int .u32 a0)]->SC prog 54 vs q m (fun v m'=>v=.lit (.int .i64 r)/\m'=m)
theorem Gg:Hf (vD):=by
 intro a0 r h q m vs hv;refine SC.wv hv (dZ func54 call54 ntmps54 results54 ?_);unfold vD at h;refine aM ?_;simp only [go_sem];refine aF (bN (aM ?_));simp only [go_sem,seval];refine bJ h (fun c1 h=>?_) (fun c1 h=>?_)
 ·refine aM ?_;simp only [go_sem,seval,c1];refine aQ ?_
  try simp only [aU,bK]
  cases h;refine ⟨by simp,?_⟩;simp only [go_sem,seval,aJ]
 ·refine aM ?_;simp only [go_sem,seval,c1];refine bJ h (fun c2 h=>?_) (fun c2 h=>?_)
  ·refine aM ?_;simp only [go_sem,seval,c2];refine aQ ?_
   try simp only [aU,bK]
   cases h;refine ⟨by simp,?_⟩;simp only [go_sem,seval,aJ]
  ·refine aV ?_
   try simp only [aL,aS]
   refine aM ?_;simp only [go_sem,seval,c2];refine aQ ?_;cases h;refine ⟨by simp,?_⟩;simp only [go_sem,seval,aJ]
def Bg (f:aD->aI->aB->Option (aD × aI)):Prop:=∀a0 a1 a2 r,f a0 a1 a2=some r->∀(q:Pa) (m:M) (vs:List V) (P0:Pa) (F0 fp0 S0 C0:V),vs.map V.weak1=[.ptr P0 0,.agg ((aB.C a2))]/\m.blk P0=some (nU F0 fp0 S0 C0 a0 a1)/\eJ F0 fp0 S0 C0 m.hp a0/\m.gl 0=.eptr [(cA bM.C cZ)] 0 0->SC prog 26 vs q m (fun v m'=>∃(F C:V) (h:Hp) (vr:Nat->Nat),v=.tup []/\m'=m.ck P0 (nU F fp0 S0 C r.1 r.2) h vr/\eJ F fp0 S0 C h r.1)
theorem AB (n:Nat):Bg (mZ n):=by
 rintro a0 a1 a2 r h q m vs P0 F0 fp0 S0 C0 ⟨hv,w0,t0,hg0⟩;refine SC.wv hv ?_;refine SC.ap w0 fun u0 l0=>?_
 try simp only [go_sem] at w0 l0
 refine dZ func26 call26 ntmps26 results26 ?_;unfold mZ at h;refine aM ?_;simp only [go_sem];refine aF ?_;obtain ⟨x2,h3,h⟩:=aA h;refine aN fun _ z=>?_;simp only [go_sem,seval];refine SC.by_ (aT a0 a1 (decide ((a2.aP.length:Int)<=64)) 136 a2.fQ _ h3 _ _ _ P0 F0 fp0 S0 C0 (by simp only [go_sem,seval,fC u0,t0,w0])) ?_;simp only [go_sem,seval];apply z;refine aF (aM ?_);simp only [go_sem,seval,fC u0];refine bN ?_;obtain ⟨y8,hy8,h⟩:=aA h;refine kN (fun c E' m'=>∃v5 v6 v7 F_v6,iQ n a2 c v5 v6 v7=some y8/\E' 0=.ptr P0 0/\E' 3=.ptr (0::q) 0/\E' 17=.list .none (a2.aP.map aB.C)/\E' 18=.lit (.int .i64 (a2.aP.length:Int))/\E' 19=.lit (.int .i64 v5)/\m'.blk P0=some (nU F_v6 fp0 S0 C0 v6 v7)/\eJ F_v6 fp0 S0 C0 m'.hp v6/\m'.blk (0::q)=some ((aB.C a2))/\m'.gl=m.gl/\Fr q P0 m m') n ⟨0,a0,x2,F0,hy8,?_⟩ ?_
 ·simp only [go_sem,seval,fC u0,t0]
 rintro i4 c9 E10 m11 ⟨v5,v6,v7,F_v6,hy8,e12⟩ _
 rcases c9 with _ | c9
 ·cases hy8
 rw [iQ] at hy8;have hk_v6:eJ F_v6 fp0 S0 C0 m11.hp v6:=by simp only [e12]
 refine aM ?_;simp only [go_sem,e12];refine aF (bJ hy8 (fun c13 hy8=>?_) (fun c13 hy8=>?_))
 ·refine aV ?_
  refine aF (bN (aF ?_));obtain ⟨x14,h19,hy8⟩:=aA hy8;obtain ⟨f16,f17,f18⟩:=aX h19;refine aN fun _ z=>?_;simp only [go_sem,seval,f16,f17,f18,e12];apply z;refine aF ?_;have s21:=(eJ.funcsR hk_v6);obtain ⟨x20,h22,hy8⟩:=aA hy8;refine dR (o0 [0,1,2,3,4,5,6,7,8,9,10,11]) 17 fun _ z=>?_;simp only [go_sem,seval,fC u0,s21.shr,e12];refine cB (vE n v6.p_ x14.cP _ h22 _ _ _ F_v6 fp0 S0 C0 v6 (by simp only [go_sem,hk_v6,s21.shr])) rfl ?_;simp only [go_sem,seval];apply z;refine aF ?_;obtain ⟨y23,hy23,hy8⟩:=aA hy8;refine gN 29 (fun E' m'=>E' 0=.ptr P0 0/\E' 3=.ptr (0::q) 0/\E' 5=.ptr (3::i4::13::q) 0/\E' 17=.list .none (a2.aP.map aB.C)/\E' 18=.lit (.int .i64 (a2.aP.length:Int))/\E' 19=.lit (.int .i64 v5)/\m'.blk P0=some (nU F_v6 fp0 S0 C0 v6 y23)/\eJ F_v6 fp0 S0 C0 m'.hp v6/\m'.blk (3::i4::13::q)=some ((aB.C x14))/\m'.blk (0::q)=some ((aB.C a2))/\m'.gl=m.gl/\Fr q P0 m m'/\m'.hp=m11.hp) ?_ ?_
  ·rcases dH hy23 with ⟨c24,hy23⟩ | ⟨c24,hy23⟩
   ·obtain ⟨x25,h27,hy23⟩:=aA hy23;obtain ⟨x26,h28,hy23⟩:=aA hy23;refine dR [(1,0),(2,0),(3,0),(4,0),(5,0),(6,0),(0,0),(7,0),(8,0),(9,0),(10,1),(11,0)] 29 fun _ z=>?_;simp only [go_sem,seval,c24];refine cB (AO n x14.cP _ h27 _ _ _ (by simp only [go_sem,e12,hg0])) rfl ?_;simp only [go_sem,seval,e12];refine cB (aT v6 v7 (x25 == 0) 131 x14.fQ _ h28 _ _ _ P0 F_v6 fp0 S0 C0 (by simp only [go_sem,seval,fC u0,hk_v6,e12])) rfl ?_;simp only [go_sem];apply z;simp only [aL];cases hy23;refine ⟨by decide,?_⟩;simp only [go_sem,seval,fC u0,hk_v6,e12]
   ·obtain ⟨x29,h30,hy23⟩:=aA hy23;refine dR [(1,0),(2,0),(3,0),(4,0),(5,0),(6,0),(0,0),(7,0),(8,0),(9,0),(10,1),(11,0)] 29 fun _ z=>?_;simp only [go_sem,seval,c24,e12];refine cB (aT v6 v7 false 131 x14.fQ _ h30 _ _ _ P0 F_v6 fp0 S0 C0 (by simp only [go_sem,seval,fC u0,hk_v6,e12])) rfl ?_;simp only [go_sem];apply z;simp only [aL];cases hy23;refine ⟨by decide,?_⟩;simp only [go_sem,seval,fC u0,hk_v6,e12]
  ·intro E31 m32 e33 _;simp only [aL];obtain ⟨x34,h38,hy8⟩:=aA hy8;obtain ⟨f39,hy8⟩:=bS hy8;obtain ⟨R35,R35R,R35l,R35a⟩:=eJ.focF hk_v6 f39;obtain ⟨f40,hy8⟩:=bS hy8;refine uK fun f41=>?_;have f36:m11.hp (46::i4::13::q)=none:=by have:=f41 46 (by omega);simpa only [go_sem,seval,t0,hk_v6,c13,e33] using this
   have k37:eJ (.vec (46::i4::13::q) 6 (v6.p_.bG.length+1)) fp0 S0 C0 (ED m11.hp F_v6 (46::i4::13::q) (R35.flatten++[.lit (.string (bs x14.cP)),.lit (.bool ((vH .u32 x14.mE 1) != 0)),.lit (.int .i64 x34),.lit (.int .i64 0),.nilv,.nilv])) ({ v6 with p_:=⟨(v6.p_.bG++[(aY.mk x14.cP ((vH .u32 x14.mE 1) != 0) x34 0 [] [])])⟩ }:aD):=R35a (f:=(aY.mk x14.cP ((vH .u32 x14.mE 1) != 0) x34 0 [] [])) f36 rfl rfl rfl rfl rfl rfl rfl;refine dR [(12,0),(13,0),(14,0),(1,0),(2,0),(3,0),(4,0),(5,1),(6,0),(7,1),(8,0),(9,1),(10,0),(11,0),(15,0),(16,0),(17,0),(0,0),(18,0),(19,0),(20,0),(21,0)] 51 fun _ z=>?_;simp only [go_sem,seval,e33];refine cB (Gg x14.mE _ h38 _ _ _ (by simp only [go_sem])) rfl ?_;simp only [go_sem,seval,s21.ld,e33];refine Ez (sz:=6) (rows:=R35) (by (try simp only [go_sem,e33]);have hR:=R35R;exact hR) JL zc44 by44 (by decide) (by decide) rfl (by simp only [go_sem,seval]) (by simp only [go_sem,seval]) (by first | omega | (simp only [jK,lD];omega)) ?_;simp only [go_sem,seval,FY,List.flatten_nil,R35l,e33];apply z;simp only [aL,aS];refine aN fun _ z=>?_;simp only [go_sem,seval,e33];apply z;refine ⟨c9,xH _,(i64.wrap (v5+1)),({ v6 with p_:=⟨(v6.p_.bG++[(aY.mk x14.cP ((vH .u32 x14.mE 1) != 0) x34 0 [] [])])⟩ }:aD),y23,(.vec (46::i4::13::q) 6 (v6.p_.bG.length+1)),hy8,?_⟩;simp only [go_sem,seval,fC u0,k37,e33]
 ·refine dQ ?_
  try simp only [bZ,bR,↓reduceIte,aL]
  cases hy8;obtain ⟨⟨f44,f45⟩,h⟩:=bS h;refine uK fun f46=>?_;have f42:m11.hp (18::q)=none:=by have:=f46 18 (by omega);simpa only [go_sem,seval,t0,hk_v6,c13,e12] using this
  have k43:eJ F_v6 fp0 S0 (.vec (18::q) 1 a2.aP.length) (rR m11.hp (18::q) (List.replicate a2.aP.length [V.nilv]).flatten) ({ v6 with cJ:=(List.replicate a2.aP.length []) }:aD):=eJ.mkCalls (n:=a2.aP.length) hk_v6 f42 rfl rfl rfl rfl;refine fB fun _ z=>?_;simp only [go_sem,seval,c13,f44,f45,e12];apply z;simp only [];cases h;refine ⟨by simp,?_⟩;simp only [go_sem,rG];refine ⟨F_v6,(.vec (18::q) 1 a2.aP.length),_,_,Fr.to (q:=q) (p:=P0) ?_ u0 (by simp only [go_sem,seval]),?_⟩
  ·simp only [go_sem,e12]
  ·simp only [go_sem,k43]
def Bm (f:aD->aI->Int->Option (aD × aI)):Prop:=∀a0 a1 a2 r,f a0 a1 a2=some r->∀(q:Pa) (m:M) (vs:List V) (P0:Pa) (F0 fp0 S0 C0:V),vs.map V.weak1=[.ptr P0 0,.lit (.int .i64 a2)]/\m.blk P0=some (nU F0 fp0 S0 C0 a0 a1)/\eJ F0 fp0 S0 C0 m.hp a0->SC prog 55 vs q m (fun v m'=>∃(fp S:V) (h:Hp) (vr:Nat->Nat),v=.tup []/\m'=m.ck P0 (nU F0 fp S C0 r.1 r.2) h vr/\eJ F0 fp S C0 h r.1)
theorem tC (n:Nat):Bm (kG n):=by
 rintro a0 a1 a2 r h q m vs P0 F0 fp0 S0 C0 ⟨hv,w0,t0⟩;refine SC.wv hv ?_;refine SC.ap w0 fun u0 l0=>?_
 try simp only [go_sem] at w0 l0
 refine dZ func55 call55 ntmps55 results55 ?_;unfold kG at h;refine aF ?_;have s6:=(eJ.funcsR t0);obtain ⟨x1,h10,h⟩:=aA h;obtain ⟨f7,f8,f9⟩:=aX h10;obtain ⟨vv_k2,bv_k2,HF_k2,k2⟩:=eJ.foc t0 f9;obtain ⟨rs_k2,s11,s12,s13,s14,s15,s16,s17⟩:=k2.rows;have k3:eJ F0 (.pp (oP F0) (a2.toNat*6)) S0 C0 m.hp ({ a0 with f_:=a2 }:aD):=eJ.setFn t0 (by assumption) rfl rfl rfl rfl;have k4:eJ F0 (.pp (oP F0) (a2.toNat*6)) .nilv C0 m.hp ({ a0 with f_:=a2,bL:=[] }:aD):=eJ.nilS k3 rfl rfl rfl rfl;have k5:eJ F0 (.pp (oP F0) (a2.toNat*6)) .nilv C0 m.hp ({ a0 with f_:=a2,bL:=[],gC:=a2 }:aD):=eJ.same k4 rfl rfl rfl rfl;refine aN fun _ z=>?_;simp only [go_sem,seval,s6.ld,sQ.ix (P:=prog) (k:=.i64) (eJ.funcsR t0) JL f7 f8,w0];apply z;refine tL (id:=P0) (off:=2) (cs:=[F0,.pp (oP F0) (a2.toNat*6),.list .self [],C0,.lit (.int .i64 ({ a0 with f_:=a2,bL:=[],gC:=a2 }:aD).gC),.lit (.int .i64 a1.e_),.lit (.int .i64 a1.Aj)]) (by simp only [go_sem,seval]) rfl ?_;refine aF ?_;obtain ⟨vv_k18,bv_k18,HF_k18,k18⟩:=eJ.foc k5 f9;obtain ⟨rs_k18,s20,s21,s22,s23,s24,s25,s26⟩:=k18.rows;refine aN fun _ z=>?_;simp only [go_sem,seval,s14,k2.hF];apply z;refine bN ?_;obtain ⟨y30,hy30,h⟩:=aA h;refine kN (fun c E' m'=>∃v28 v29 S_v29,gU x1 c v28 v29=some y30/\E' 0=.ptr P0 0/\E' 28=.lit (.int .i64 x1.bD)/\E' 29=.lit (.int .i64 v28)/\m'.blk P0=some (nU F0 (.pp (oP F0) (a2.toNat*6)) S_v29 C0 v29 a1)/\eJ F0 (.pp (oP F0) (a2.toNat*6)) S_v29 C0 m'.hp v29/\m'.gl=m.gl/\Fr q P0 m m') n ⟨0,({ a0 with f_:=a2,bL:=[],gC:=a2 }:aD),.nilv,hy30,?_⟩ ?_
 ·simp only [go_sem,seval,k5]
 rintro i27 c31 E32 m33 ⟨v28,v29,S_v29,hy30,e34⟩ _
 rcases c31 with _ | c31
 ·cases hy30
 rw [gU] at hy30;have hk_v29:eJ F0 (.pp (oP F0) (a2.toNat*6)) S_v29 C0 m33.hp v29:=by simp only [e34]
 refine aM ?_;simp only [go_sem,e34];refine aF (bJ hy30 (fun c35 hy30=>?_) (fun c35 hy30=>?_))
 ·refine aV ?_
  refine aF (bN (aM ?_));simp only [go_sem,seval,c35,e34];have s38:=(eJ.scopeS hk_v29);obtain ⟨f39,hy30⟩:=bS hy30;refine uK fun f40=>?_;have f36:m33.hp (10::i27::28::q)=none:=by have:=f40 10 (by omega);simpa only [go_sem,seval,t0,k3,k4,k5,hk_v29,c35,e34] using this
  have k37:eJ F0 (.pp (oP F0) (a2.toNat*6)) (.vec (10::i27::28::q) 1 (v29.bL.length+1)) C0 (ED m33.hp S_v29 (10::i27::28::q) ((v29.bL.map (cI .i64)).flatten++[.lit (.int .i64 v28)])) ({ v29 with bL:=(v29.bL++[v28]) }:aD):=eJ.appS hk_v29 f36 v28 rfl rfl rfl rfl;refine fB fun _ z=>?_;simp only [go_sem,seval,s38.ld,e34];refine FF (sz:=1) (rows:=(v29.bL.map (cI .i64))) (by (try simp only [go_sem,seval,t0,k3,k4,k5,hk_v29,c35,k37,e34]);have hR:=(eJ.scopeR hk_v29);exact hR) PM zc3 by3 (by decide) (by decide) rfl (by simp only [go_sem]) (by simp only [go_sem,seval]) (by first | omega | (simp only [uQ,jK,lD];omega)) ?_;simp only [go_sem,seval,FY,List.flatten_nil,e34];apply z;simp only [aL,aS];refine aN fun _ z=>?_;simp only [go_sem,seval,e34];apply z;refine ⟨c31,xH _,(i64.wrap (v28+1)),({ v29 with bL:=(v29.bL++[v28]) }:aD),(.vec (10::i27::28::q) 1 (v29.bL.length+1)),hy30,?_⟩;simp only [go_sem,seval,k37,e34]
 ·refine dQ ?_
  try simp only [bZ,bR,↓reduceIte]
  cases hy30;cases h;refine ⟨by simp,?_⟩;simp only [go_sem,c35];refine ⟨(.pp (oP F0) (a2.toNat*6)),S_v29,_,_,Fr.to (q:=q) (p:=P0) ?_ u0 (by simp only [go_sem,e34]),?_⟩
  ·simp only [go_sem,e34]
  ·simp only [go_sem,hk_v29]
def HE (f:Int->Option Bool):Prop:=∀a0 r,f a0=some r->∀(q:Pa) (m:M) (vs:List V),vs.map V.weak1=[.lit (.int .i64 a0)]->SC prog 87 vs q m (fun v m'=>v=.lit (.bool r)/\m'=m)
theorem DA:HE (uH):=by
 intro a0 r h q m vs hv;refine SC.wv hv (dZ func87 call87 ntmps87 results87 ?_);unfold uH at h;refine aM ?_;simp only [go_sem];refine aF ?_;obtain ⟨y1,hy1,h⟩:=aA h;refine gN 21 (fun E' m'=>E' 2=.lit (.bool y1)/\m'.gl=m.gl/\m.back q m'=m) ?_ ?_
 ·rcases dH hy1 with ⟨c2,hy1⟩ | ⟨c2,hy1⟩
  ·
   rcases dH hy1 with ⟨c3,hy1⟩ | ⟨c3,hy1⟩
   ·refine aN fun _ z=>?_;simp only [go_sem,seval,c2,c3];apply z;cases hy1;refine ⟨by decide,?_⟩;simp only [go_sem,seval,aJ]
   ·
    rcases dH hy1 with ⟨c4,hy1⟩ | ⟨c4,hy1⟩
    ·
     rcases dH hy1 with ⟨c5,hy1⟩ | ⟨c5,hy1⟩
     ·refine aN fun _ z=>?_;simp only [go_sem,seval,c2,c3,c4,c5,(by decide:4 ≠ 0)];apply z;cases hy1;refine ⟨by decide,?_⟩;simp only [go_sem,seval,aJ]
     ·refine aN fun _ z=>?_;simp only [go_sem,seval,c2,c3,c4,c5];apply z;cases hy1;refine ⟨by decide,?_⟩;simp only [go_sem,seval,aJ]
    ·refine aN fun _ z=>?_;simp only [go_sem,seval,c2,c3,c4];apply z;cases hy1;refine ⟨by decide,?_⟩;simp only [go_sem,seval,aJ]
  ·
   rcases dH hy1 with ⟨c6,hy1⟩ | ⟨c6,hy1⟩
   ·
    rcases dH hy1 with ⟨c7,hy1⟩ | ⟨c7,hy1⟩
    ·refine aN fun _ z=>?_;simp only [go_sem,seval,c2,c6,c7,(by decide:4 ≠ 0)];apply z;cases hy1;refine ⟨by decide,?_⟩;simp only [go_sem,seval,aJ]
    ·refine aN fun _ z=>?_;simp only [go_sem,seval,c2,c6,c7];apply z;cases hy1;refine ⟨by decide,?_⟩;simp only [go_sem,seval,aJ]
   ·refine aN fun _ z=>?_;simp only [go_sem,seval,c2,c6];apply z;cases hy1;refine ⟨by decide,?_⟩;simp only [go_sem,seval,aJ]
 ·intro E8 m9 e10 _;refine aQ ?_;cases h;refine ⟨by simp,?_⟩;simp only [go_sem,e10]
def Ca (f:aD->aI->cR->Option Int):Prop:=∀a0 a1 a2 r,f a0 a1 a2=some r->∀(q:Pa) (m:M) (vs:List V) (P0:Pa) (F0 fp0 S0 C0:V),vs.map V.weak1=[.ptr P0 0,.lit (.string (bs a2))]/\m.blk P0=some (nU F0 fp0 S0 C0 a0 a1)/\eJ F0 fp0 S0 C0 m.hp a0->SC prog 139 vs q m (fun v m'=>v=.lit (.int .i64 r)/\m'=m)
theorem uB (n:Nat):Ca (kX n):=by
 rintro a0 a1 a2 r h q m vs P0 F0 fp0 S0 C0 ⟨hv,w0,t0⟩;refine SC.wv hv ?_;refine SC.apart w0 fun u0=>?_
 try simp only [go_sem] at w0
 refine dZ func139 call139 ntmps139 results139 ?_;unfold kX at h;refine aM ?_;simp only [go_sem];refine aF (aF ?_);have s1:=(eJ.scopeS t0);refine aN fun _ z=>?_;simp only [go_sem,seval,s1.slen,s1.ld,w0];apply z;refine bN ?_;obtain ⟨y4,hy4,h⟩:=aA h;refine kN (fun c E' m'=>∃v3,jE a0 a2 c v3=some y4/\E' 0=.ptr P0 0/\E' 1=.lit (.string (bs a2))/\E' 5=.lit (.int .i64 v3)/\m'.blk P0=some (nU F0 fp0 S0 C0 a0 a1)/\m'.gl=m.gl/\m'.hp=m.hp/\m.back q m'=m) n ⟨(i64.wrap ((a0.bL.length:Int) - 1)),hy4,?_⟩ ?_
 ·simp only [go_sem,seval,aJ,w0]
 rintro i2 c5 E6 m7 ⟨v3,hy4,e8⟩ _
 rcases c5 with _ | c5
 ·cases hy4
 rw [jE] at hy4;refine aF (aM ?_);simp only [go_sem,seval,e8];refine bJ hy4 (fun c9 hy4=>?_) (fun c9 hy4=>?_)
 ·refine aV ?_
  refine aF (bN (aF ?_));obtain ⟨x10,h18,hy4⟩:=aA hy4;obtain ⟨f15,f16,f17⟩:=aX h18;obtain ⟨vv_k11,bv_k11,HF_k11,k11⟩:=eJ.foc t0 f17;obtain ⟨rs_k11,s19,s20,s21,s22,s23,s24,s25⟩:=k11.rows;have s26:=(eJ.funcsR t0);have s12:=eJ.fpEq t0 f15;have s27:eJ F0 (.pp (oP F0) (a0.f_.toNat*6)) S0 C0 m.hp a0:=by rw [←s12];exact t0
  have s28:=(gF.shC k11.vars);obtain ⟨x13,h32,hy4⟩:=aA hy4;obtain ⟨f29,f30,f31⟩:=aX h32;obtain ⟨H35,rs_H35,s33,s34⟩:=gF.readI' (eJ.scopeR t0) f31;obtain ⟨x14,h39,hy4⟩:=aA hy4;obtain ⟨f36,f37,f38⟩:=aX h39;obtain ⟨H44,rs_H44,s40,s41,s42,s43⟩:=gF.readVar k11.vars f38;refine dR (o0 [0,1,2,3,4,5,6,7,8,9,10,11,12,13,14,15,16,17,18]) 21 fun _ z=>?_;simp only [go_sem,seval,s1.ld,s23,k11.hF,s12,f29,sQ.ix (P:=prog) (k:=.i64) (eJ.scopeS t0) PM f29 f30,s33,s34,sQ.ix (P:=prog) (k:=.i64) (gF.shC k11.vars) GB f36 f37,s40,s41,e8];apply z;refine bJ hy4 (fun c45 hy4=>?_) (fun c45 hy4=>?_)
  ·refine aM ?_;simp only [go_sem,seval,s1.ld,s12,sQ.ix (P:=prog) (k:=.i64) (eJ.scopeS t0) PM f29 f30,s33,s34,c45,e8];refine aQ ?_
   try simp only [aU,bK]
   cases hy4;simp only [DX] at h;cases h;refine ⟨by simp,?_⟩;simp only [go_sem,seval,e8]
  ·refine aV ?_
   try simp only [aL,aS]
   refine aN fun _ z=>?_;simp only [go_sem,seval,c45,e8];apply z;refine ⟨c5,xH _,(i64.wrap (v3 - 1)),hy4,?_⟩;simp only [go_sem,seval,s12,e8]
 ·refine dQ ?_
  try simp only [bZ,bR,↓reduceIte,aL]
  cases hy4;simp only [FW] at h;refine aM ?_;simp only [go_sem,seval,c9];refine aQ ?_;cases h;refine ⟨by simp,?_⟩;simp only [go_sem,seval,e8]
def zR (f:aD->aI->aZ->Int->Option (Int × aD × aI)):Prop:=∀a0 a1 a2 a3 r,f a0 a1 a2 a3=some r->∀(q:Pa) (m:M) (vs:List V) (P0:Pa) (F0 fp0 S0 C0:V),vs.map V.weak1=[.ptr P0 0,.agg ((aZ.C a2)),.lit (.int .i64 a3)]/\m.blk P0=some (nU F0 fp0 S0 C0 a0 a1)/\eJ F0 fp0 S0 C0 m.hp a0->SC prog 88 vs q m (fun v m'=>∃(S:V) (h:Hp) (vr:Nat->Nat),v=.lit (.int .i64 r.1)/\m'=m.ck P0 (nU F0 fp0 S C0 r.2.1 r.2.2) h vr/\eJ F0 fp0 S C0 h r.2.1)
theorem gI (n:Nat):zR (eE n):=by
 rintro a0 a1 a2 a3 r h q m vs P0 F0 fp0 S0 C0 ⟨hv,w0,t0⟩;refine SC.wv hv ?_;refine SC.ap w0 fun u0 l0=>?_
 try simp only [go_sem] at w0 l0
 refine dZ func88 call88 ntmps88 results88 ?_;unfold eE at h;refine aM ?_;simp only [go_sem,seval];refine aF ?_;obtain ⟨x2,h4,h⟩:=aA h;obtain ⟨x3,h5,h⟩:=aA h;refine aN fun _ z=>?_;simp only [go_sem,seval];refine SC.by_ (uB n a0 a1 a2.jP _ h4 _ _ _ P0 F0 fp0 S0 C0 (by simp only [go_sem,seval,cQ u0,t0,w0])) ?_;simp only [go_sem,seval];refine SC.by_ (aT a0 a1 (decide (x2<0)) 131 a3 _ h5 _ _ _ P0 F0 fp0 S0 C0 (by simp only [go_sem,seval,cQ u0,t0,w0])) ?_;simp only [go_sem,seval];apply z;refine aF ?_;obtain ⟨x6,h13,h⟩:=aA h;obtain ⟨f10,f11,f12⟩:=aX h13;obtain ⟨vv_k7,bv_k7,HF_k7,k7⟩:=eJ.foc t0 f12;obtain ⟨rs_k7,s14,s15,s16,s17,s18,s19,s20⟩:=k7.rows;have s21:=(eJ.funcsR t0);have s8:=eJ.fpEq t0 f10;have s22:eJ F0 (.pp (oP F0) (a0.f_.toNat*6)) S0 C0 m.hp a0:=by rw [←s8];exact t0
 have s23:=(gF.shC k7.vars);obtain ⟨x9,h24,h⟩:=aA h;refine aN fun _ z=>?_;simp only [go_sem,seval,s18,k7.hF,s8,s23.slen];refine SC.by_ (aT a0 x3 (decide ((x6.bB.length:Int)<250)) 136 a3 _ h24 _ _ _ P0 F0 fp0 S0 C0 (by simp only [go_sem,seval,s8,s22])) ?_;simp only [go_sem,seval,s8];apply z;refine aF (aM ?_);simp only [go_sem,seval];refine bJ h (fun c25 h=>?_) (fun c25 h=>?_)
 ·refine aM ?_;simp only [go_sem,seval,c25];refine aQ ?_
  try simp only [aU]
  cases h;refine ⟨by simp,?_⟩;simp only [go_sem,seval,s8];refine ⟨S0,_,_,Fr.to (q:=q) (p:=P0) ?_ u0 (by simp only [go_sem,seval]),?_⟩
  ·simp only [go_sem]
  ·simp only [go_sem,s22]
 ·refine aV ?_
  refine aM ?_;simp only [go_sem,seval,s18,k7.hF,s23.slen,c25];refine aF ?_;obtain ⟨f29,h⟩:=bS h;refine uK fun f30=>?_;have f26:m.hp (49::q)=none:=by have:=f30 49 (by omega);simpa only [go_sem,seval,t0,c25] using this
  have k27:eJ F0 fp0 S0 C0 (rR (ED m.hp vv_k7 (49::q) ((x6.bB.map aZ.C).flatten++[.lit (.string (bs a2.jP)),.lit (.int .i64 a2.cF),.lit (.int .i64 a2.iV)])) (oP F0) (HF_k7.set (a0.f_.toNat*6+4) (.vec (49::q) 3 (x6.bB.length+1)))) ({ a0 with p_:=⟨(a0.p_.bG.set a0.f_.toNat { x6 with bB:=(x6.bB++[a2]) })⟩ }:aD):=Gm.appVars k7 f26 a2 rfl rfl rfl rfl;have k28:eJ F0 (.pp (oP F0) (a0.f_.toNat*6)) S0 C0 (rR (ED m.hp vv_k7 (49::q) ((x6.bB.map aZ.C).flatten++[.lit (.string (bs a2.jP)),.lit (.int .i64 a2.cF),.lit (.int .i64 a2.iV)])) (oP F0) (HF_k7.set (a0.f_.toNat*6+4) (.vec (49::q) 3 (x6.bB.length+1)))) ({ a0 with p_:=⟨(a0.p_.bG.set a0.f_.toNat { x6 with bB:=(x6.bB++[a2]) })⟩ }:aD):=by rw [←s8];exact k27
  refine dR [(4,0),(5,0),(6,0),(7,0),(8,0),(9,0),(10,0),(11,0),(12,0),(13,0),(0,0),(1,0),(2,0),(3,1),(14,0),(15,0),(16,0)] 53 fun _ z=>?_;simp only [go_sem,seval,cQ u0,s18,k7.hF];refine Ez (sz:=3) (rows:=(x6.bB.map aZ.C)) (by (try simp only [go_sem]);have hR:=k7.vars;exact hR) GB zc66 by66 (by decide) (by decide) rfl (by simp only [go_sem,seval]) (by simp only [go_sem,seval]) (by first | omega | (simp only [uQ,jK,lD];omega)) ?_;simp only [go_sem,seval,FY,List.flatten_nil,rG,Gm.apF k7 f26,k7.len4];apply z;refine aF ?_;have s34:=(eJ.scopeS k27);obtain ⟨f35,h⟩:=bS h;refine uK fun f36=>?_;have f31:(rR (ED m.hp vv_k7 (49::q) ((x6.bB.map aZ.C).flatten++[.lit (.string (bs a2.jP)),.lit (.int .i64 a2.cF),.lit (.int .i64 a2.iV)])) (oP F0) (HF_k7.set (a0.f_.toNat*6+4) (.vec (49::q) 3 (x6.bB.length+1)))) (60::q)=none:=by have:=f36 60 (by omega);simpa only [go_sem,seval,t0,c25,k27,k28] using this
  have k32:eJ F0 fp0 (.vec (60::q) 1 (a0.bL.length+1)) C0 (ED (rR (ED m.hp vv_k7 (49::q) ((x6.bB.map aZ.C).flatten++[.lit (.string (bs a2.jP)),.lit (.int .i64 a2.cF),.lit (.int .i64 a2.iV)])) (oP F0) (HF_k7.set (a0.f_.toNat*6+4) (.vec (49::q) 3 (x6.bB.length+1)))) S0 (60::q) ((a0.bL.map (cI .i64)).flatten++[.lit (.int .i64 (x6.bB.length:Int))])) ({ a0 with p_:=⟨(a0.p_.bG.set a0.f_.toNat { x6 with bB:=(x6.bB++[a2]) })⟩,bL:=(a0.bL++[(x6.bB.length:Int)]) }:aD):=eJ.appS k27 f31 (x6.bB.length:Int) rfl rfl rfl rfl;have k33:eJ F0 (.pp (oP F0) (a0.f_.toNat*6)) (.vec (60::q) 1 (a0.bL.length+1)) C0 (ED (rR (ED m.hp vv_k7 (49::q) ((x6.bB.map aZ.C).flatten++[.lit (.string (bs a2.jP)),.lit (.int .i64 a2.cF),.lit (.int .i64 a2.iV)])) (oP F0) (HF_k7.set (a0.f_.toNat*6+4) (.vec (49::q) 3 (x6.bB.length+1)))) S0 (60::q) ((a0.bL.map (cI .i64)).flatten++[.lit (.int .i64 (x6.bB.length:Int))])) ({ a0 with p_:=⟨(a0.p_.bG.set a0.f_.toNat { x6 with bB:=(x6.bB++[a2]) })⟩,bL:=(a0.bL++[(x6.bB.length:Int)]) }:aD):=by rw [←s8];exact k32
  refine aN fun _ z=>?_;simp only [go_sem,seval,s34.ld];refine FF (sz:=1) (rows:=(a0.bL.map (cI .i64))) (by (try simp only [go_sem]);have hR:=(eJ.scopeR k27);exact hR) PM zc3 by3 (by decide) (by decide) rfl (by simp only [go_sem]) (by simp only [go_sem,seval]) (by first | omega | (simp only [uQ,jK,lD];omega)) ?_;simp only [go_sem,seval,FY,List.flatten_nil];apply z;refine aM ?_;simp only [go_sem,seval];refine aQ ?_;cases h;refine ⟨by simp,?_⟩;simp only [go_sem,seval,s8];refine ⟨(.vec (60::q) 1 (a0.bL.length+1)),_,_,Fr.to (q:=q) (p:=P0) ?_ u0 (by simp only [go_sem,seval]),?_⟩
  ·simp only [go_sem]
  ·simp only [go_sem,k33]
def AA (f:aD->aI->(List aB)->Option (aD × aI)):Prop:=∀a0 a1 a2 r,f a0 a1 a2=some r->∀(q:Pa) (m:M) (vs:List V) (P0:Pa) (F0 fp0 S0 C0:V),vs.map V.weak1=[.ptr P0 0,.list .none (a2.map aB.C)]/\m.blk P0=some (nU F0 fp0 S0 C0 a0 a1)/\eJ F0 fp0 S0 C0 m.hp a0->SC prog 56 vs q m (fun v m'=>∃(S:V) (h:Hp) (vr:Nat->Nat),v=.tup []/\m'=m.ck P0 (nU F0 fp0 S C0 r.1 r.2) h vr/\eJ F0 fp0 S C0 h r.1)
theorem zM (n:Nat):AA (oV n):=by
 rintro a0 a1 a2 r h q m vs P0 F0 fp0 S0 C0 ⟨hv,w0,t0⟩;refine SC.wv hv ?_;refine SC.ap w0 fun u0 l0=>?_
 try simp only [go_sem] at w0 l0
 refine dZ func56 call56 ntmps56 results56 ?_;unfold oV at h;refine aF (aM ?_);simp only [go_sem,seval];refine bN ?_;obtain ⟨y5,hy5,h⟩:=aA h;refine kN (fun c E' m'=>∃v2 v3 v4 S_v3,iG n a2 c v2 v3 v4=some y5/\E' 0=.ptr P0 0/\E' 7=.list .none (a2.map aB.C)/\E' 8=.lit (.int .i64 (a2.length:Int))/\E' 9=.lit (.int .i64 v2)/\m'.blk P0=some (nU F0 fp0 S_v3 C0 v3 v4)/\eJ F0 fp0 S_v3 C0 m'.hp v3/\m'.gl=m.gl/\Fr q P0 m m') n ⟨0,a0,a1,S0,hy5,?_⟩ ?_
 ·simp only [go_sem,seval,t0,w0]
 rintro i1 c6 E7 m8 ⟨v2,v3,v4,S_v3,hy5,e9⟩ _
 rcases c6 with _ | c6
 ·cases hy5
 rw [iG] at hy5;have hk_v3:eJ F0 fp0 S_v3 C0 m8.hp v3:=by simp only [e9]
 refine aM ?_;simp only [go_sem,e9];refine aF (bJ hy5 (fun c10 hy5=>?_) (fun c10 hy5=>?_))
 ·refine aV ?_
  refine aF ?_;obtain ⟨y11,hy11,hy5⟩:=aA hy5;refine gN 42 (fun E' m'=>∃(S_y11_1:V),E' 0=.ptr P0 0/\E' 7=.list .none (a2.map aB.C)/\E' 8=.lit (.int .i64 (a2.length:Int))/\E' 9=.lit (.int .i64 v2)/\m'.blk P0=some (nU F0 fp0 S_y11_1 C0 y11.1 y11.2)/\eJ F0 fp0 S_y11_1 C0 m'.hp y11.1/\m'.gl=m.gl/\Fr q P0 m m') ?_ ?_
  ·refine bN (aF ?_);obtain ⟨x12,h17,hy11⟩:=aA hy11;obtain ⟨f14,f15,f16⟩:=aX h17;refine aN fun _ z=>?_;simp only [go_sem,seval,f14,f15,f16,e9];apply z;refine aM ?_;simp only [go_sem,seval];refine aF (aF ?_);obtain ⟨y19,hy19,hy11⟩:=aA hy11;refine gN 22 (fun E' m'=>E' 0=.ptr P0 0/\E' 5=.ptr (3::i1::3::q) 0/\E' 6=.ptr (11::i1::3::q) 0/\E' 7=.list .none (a2.map aB.C)/\E' 8=.lit (.int .i64 (a2.length:Int))/\E' 9=.lit (.int .i64 v2)/\E' 27=.lit (.bool y19)/\m'.blk P0=some (nU F0 fp0 S_v3 C0 v3 v4)/\eJ F0 fp0 S_v3 C0 m'.hp v3/\m'.blk (3::i1::3::q)=some ((aB.C x12))/\m'.blk (11::i1::3::q)=some ((aZ.C (aZ.mk x12.cP (i64.wrap x12.mE) 0)))/\m'.gl=m.gl/\Fr q P0 m m'/\m'.hp=m8.hp) ?_ ?_
   ·rcases dH hy19 with ⟨c20,hy19⟩ | ⟨c20,hy19⟩
    ·refine aN fun _ z=>?_;simp only [go_sem,seval,c20];apply z;cases hy19;refine ⟨by decide,?_⟩;simp only [go_sem,seval,fC u0,hk_v3,e9]
    ·refine aN fun _ z=>?_;simp only [go_sem,seval,c20];apply z;cases hy19;refine ⟨by decide,?_⟩;simp only [go_sem,seval,fC u0,hk_v3,e9]
   ·intro E21 m22 e23 _;refine bJ hy11 (fun c24 hy11=>?_) (fun c24 hy11=>?_)
    ·refine aF ?_;obtain ⟨x25,h29,hy11⟩:=aA hy11;obtain ⟨f26,f27,f28⟩:=aX h29;have f30:x12.aP[0]? = some x25:=f28;refine aN fun _ z=>?_;simp only [go_sem,seval,f26,f27,f30,e23];apply z;obtain ⟨x31,h33,hy11⟩:=aA hy11;obtain ⟨x32,h34,hy11⟩:=aA hy11;refine dR [(1,0),(2,0),(3,0),(0,0),(4,0),(5,1),(6,0)] 37 fun _ z=>?_;simp only [go_sem,seval,e23];refine cB (DA (i64.wrap x25.mE) _ h33 _ _ _ (by simp only [go_sem])) rfl ?_;simp only [go_sem,seval,e23];refine cB (aT v3 v4 x31 136 x12.fQ _ h34 _ _ _ P0 F0 fp0 S_v3 C0 (by simp only [go_sem,seval,fC u0,hk_v3,e23])) rfl ?_;simp only [go_sem];apply z;simp only [aL];obtain ⟨x35,h36,hy11⟩:=aA hy11;refine fB fun _ z=>?_;simp only [go_sem,seval,fC u0,e23];refine SC.mono (gI n v3 x32 (aZ.mk x12.cP (i64.wrap x12.mE) (i64.wrap x25.mE)) x12.fQ _ h36 _ _ _ P0 F0 fp0 S_v3 C0 (by simp only [go_sem,seval,hk_v3,e23])) ?_;rintro _ _ ⟨S_x35,h_x35,vr_x35,rfl,rfl,hk_x35⟩;simp only [go_sem,seval];apply z;simp only [aL,aS];cases hy11;refine ⟨by decide,S_x35,?_⟩;simp only [go_sem,seval,hk_x35,e23]
    ·refine aV ?_
     try simp only [aL]
     obtain ⟨x37,h38,hy11⟩:=aA hy11;refine fB fun _ z=>?_;simp only [go_sem,seval,e23];refine SC.mono (gI n v3 v4 (aZ.mk x12.cP (i64.wrap x12.mE) 0) x12.fQ _ h38 _ _ _ P0 F0 fp0 S_v3 C0 (by simp only [go_sem,hk_v3,e23])) ?_;rintro _ _ ⟨S_x37,h_x37,vr_x37,rfl,rfl,hk_x37⟩;simp only [go_sem,seval];apply z;simp only [aL,aS];cases hy11;refine ⟨by decide,S_x37,?_⟩;simp only [go_sem,seval,hk_x37,e23]
  ·rintro E39 m40 ⟨S_y11_1,e41⟩ _;simp only [aL];have hk_y11_1:eJ F0 fp0 S_y11_1 C0 m40.hp y11.1:=by simp only [e41]
   refine aN fun _ z=>?_;simp only [go_sem,seval,e41];apply z;refine ⟨c6,xH _,(i64.wrap (v2+1)),y11.1,y11.2,S_y11_1,hy5,?_⟩;simp only [go_sem,seval,hk_y11_1,e41]
 ·refine dQ ?_
  try simp only [bZ,bR,↓reduceIte,aL]
  cases hy5;obtain ⟨x42,h50,h⟩:=aA h;obtain ⟨f47,f48,f49⟩:=aX h50;obtain ⟨vv_k43,bv_k43,HF_k43,k43⟩:=eJ.foc hk_v3 f49;obtain ⟨rs_k43,s51,s52,s53,s54,s55,s56,s57⟩:=k43.rows;have s58:=(eJ.funcsR hk_v3);have s44:=eJ.fpEq hk_v3 f47;have s59:eJ F0 (.pp (oP F0) (v3.f_.toNat*6)) S_v3 C0 m8.hp v3:=by rw [←s44];exact hk_v3
  have s60:=(gF.shC k43.vars);have k45:eJ F0 fp0 S_v3 C0 (rR m8.hp (oP F0) (HF_k43.set (v3.f_.toNat*6+3) (.lit (.int .i64 (x42.bB.length:Int))))) ({ v3 with p_:=⟨(v3.p_.bG.set v3.f_.toNat { x42 with bD:=(x42.bB.length:Int) })⟩ }:aD):=Gm.setParams k43 rfl rfl rfl rfl;have k46:eJ F0 (.pp (oP F0) (v3.f_.toNat*6)) S_v3 C0 (rR m8.hp (oP F0) (HF_k43.set (v3.f_.toNat*6+3) (.lit (.int .i64 (x42.bB.length:Int))))) ({ v3 with p_:=⟨(v3.p_.bG.set v3.f_.toNat { x42 with bD:=(x42.bB.length:Int) })⟩ }:aD):=by rw [←s44];exact k45
  refine dR (o0 [0,1,2,3,4,5,6,7,8,9,10,11,12,13,14]) 19 fun _ z=>?_;simp only [go_sem,seval,c10,s55,k43.hF,s44,s60.slen,k43.len3,e9];apply z;simp only [];cases h;refine ⟨by simp,?_⟩;simp only [go_sem,rG,s44];refine ⟨S_v3,_,_,Fr.to (q:=q) (p:=P0) ?_ u0 (by simp only [go_sem,s44,e9]),?_⟩
  ·simp only [go_sem,e9]
  ·simp only [go_sem,k46]
def BZ (f:aD->aI->Int->aB->Option (aD × aI)):Prop:=∀a0 a1 a2 a3 r,f a0 a1 a2 a3=some r->∀(q:Pa) (m:M) (vs:List V) (P0:Pa) (F0 fp0 S0 C0:V),vs.map V.weak1=[.ptr P0 0,.lit (.int .i64 a2),.agg ((aB.C a3))]/\m.blk P0=some (nU F0 fp0 S0 C0 a0 a1)/\eJ F0 fp0 S0 C0 m.hp a0->SC prog 27 vs q m (fun v m'=>∃(fp S:V) (h:Hp) (vr:Nat->Nat),v=.tup []/\m'=m.ck P0 (nU F0 fp S C0 r.1 r.2) h vr/\eJ F0 fp S C0 h r.1)
theorem Bi (n:Nat):BZ (jN n):=by
 rintro a0 a1 a2 a3 r h q m vs P0 F0 fp0 S0 C0 ⟨hv,w0,t0⟩;refine SC.wv hv ?_;refine SC.ap w0 fun u0 l0=>?_
 try simp only [go_sem] at w0 l0
 refine dZ func27 call27 ntmps27 results27 ?_;unfold jN at h;refine aM ?_;simp only [go_sem];refine aF ?_;obtain ⟨x2,h3,h⟩:=aA h;refine aN fun _ z=>?_;simp only [go_sem,seval];refine SC.mono (tC n a0 a1 a2 _ h3 _ _ _ P0 F0 fp0 S0 C0 (by simp only [go_sem,seval,cQ u0,t0,w0])) ?_;rintro _ _ ⟨fp_x2,S_x2,h_x2,vr_x2,rfl,rfl,hk_x2⟩;simp only [go_sem,seval];apply z;refine aF ?_;obtain ⟨⟨f5,f6⟩,h⟩:=bS h;obtain ⟨x4,h7,h⟩:=aA h;refine aN fun _ z=>?_;simp only [go_sem,seval,cQ u0,f5,f6];refine SC.mono (zM n x2.1 x2.2 (a3.aP.take (max (i64.wrap ((a3.aP.length:Int) - 1)) 0).toNat) _ h7 _ _ _ P0 F0 fp_x2 S_x2 C0 (by simp only [go_sem,seval,hk_x2])) ?_;rintro _ _ ⟨S_x4,h_x4,vr_x4,rfl,rfl,hk_x4⟩;simp only [go_sem,seval];apply z;refine aM ?_;simp only [go_sem,seval];refine bJ h (fun c8 h=>?_) (fun c8 h=>?_)
 ·obtain ⟨y9,hy9,h⟩:=aA h;refine gN 41 (fun E' m'=>m'.blk P0=some (nU F0 fp_x2 S_x4 C0 x4.1 y9)/\eJ F0 fp_x2 S_x4 C0 m'.hp x4.1/\m'.gl=m.gl/\Fr q P0 m m'/\m'.hp=h_x4) ?_ ?_
  ·obtain ⟨x10,h16,hy9⟩:=aA hy9;obtain ⟨f13,f14,f15⟩:=aX h16;obtain ⟨vv_k11,bv_k11,HF_k11,k11⟩:=eJ.foc hk_x4 f15;obtain ⟨rs_k11,s17,s18,s19,s20,s21,s22,s23⟩:=k11.rows;have s24:=(eJ.funcsR hk_x4);have s12:=eJ.fpEq hk_x4 f13;have s25:eJ F0 (.pp (oP F0) (x4.1.f_.toNat*6)) S_x4 C0 h_x4 x4.1:=by rw [←s12];exact hk_x4
   rcases dH hy9 with ⟨c26,hy9⟩ | ⟨c26,hy9⟩
   ·obtain ⟨x27,h28,hy9⟩:=aA hy9;refine dR [(1,0),(2,0),(3,0),(4,0),(5,0),(6,0),(7,0),(8,0),(9,0),(10,0),(11,0),(12,0),(13,0),(14,0),(15,0),(16,0),(0,0),(17,0),(18,0),(19,0),(20,1),(21,0)] 41 fun _ z=>?_;simp only [go_sem,seval,cQ u0,c8,s18,k11.hF,s12,c26];refine cB (aT x4.1 x4.2 true 136 a3.fQ _ h28 _ _ _ P0 F0 fp_x2 S_x4 C0 (by simp only [go_sem,seval,s12,s25])) rfl ?_;simp only [go_sem,s12];apply z;simp only [aL];cases hy9;refine ⟨by decide,?_⟩;simp only [go_sem,seval,s12,s25]
   ·have s31:=(gF.shC k11.vars);have f32:(6<=rs_k11.length+1+1+1+1+1+1)=True:=eq_true (by omega);obtain ⟨x29,h33,hy9⟩:=aA hy9;obtain ⟨x30,h34,hy9⟩:=aA hy9;refine dR [(1,0),(2,0),(3,0),(4,0),(5,0),(6,0),(7,0),(8,0),(9,0),(10,0),(11,0),(12,0),(13,0),(14,0),(15,0),(16,0),(0,0),(17,0),(18,0),(19,0),(20,1),(21,0)] 41 fun _ z=>?_;simp only [go_sem,seval,c8,s17,s18,s23,k11.hF,s12,c26,s31.shr,f32];refine cB (DB n x10 _ h33 _ _ _ vv_k11 bv_k11 (by simp only [go_sem,s23,s31.shr,k11.vars])) rfl ?_;simp only [go_sem,seval,cQ u0];refine cB (aT x4.1 x4.2 (decide (x29<=4)) 136 a3.fQ _ h34 _ _ _ P0 F0 fp_x2 S_x4 C0 (by simp only [go_sem,seval,s12,s25])) rfl ?_;simp only [go_sem,s12];apply z;simp only [aL];cases hy9;refine ⟨by decide,?_⟩;simp only [go_sem,seval,s12,s25]
  ·intro E35 m36 e37 _;simp only [];cases h;refine ⟨by simp,?_⟩;simp only [go_sem];refine ⟨fp_x2,S_x4,_,_,Fr.to (q:=q) (p:=P0) ?_ u0 (by simp only [go_sem,e37]),?_⟩
   ·simp only [go_sem,e37]
   ·simp only [go_sem,hk_x4,e37]
 ·refine aV ?_;cases h;refine ⟨by simp,?_⟩;simp only [go_sem,c8];refine ⟨fp_x2,S_x4,_,_,Fr.to (q:=q) (p:=P0) ?_ u0 (by simp only [go_sem,seval]),?_⟩
  ·simp only [go_sem]
  ·simp only [go_sem,hk_x4]
def BY (f:aD->aI->Int->Option Int):Prop:=∀a0 a1 a2 r,f a0 a1 a2=some r->∀(q:Pa) (m:M) (vs:List V) (P0:Pa) (F0 fp0 S0 C0:V),vs.map V.weak1=[.ptr P0 0,.lit (.int .i64 a2)]/\m.blk P0=some (nU F0 fp0 S0 C0 a0 a1)/\eJ F0 fp0 S0 C0 m.hp a0->SC prog 182 vs q m (fun v m'=>v=.lit (.int .i64 r)/\m'=m)
theorem gL:BY (fK):=by
 rintro a0 a1 a2 r h q m vs P0 F0 fp0 S0 C0 ⟨hv,w0,t0⟩;refine SC.wv hv ?_;refine SC.apart w0 fun u0=>?_
 try simp only [go_sem] at w0
 refine dZ func182 call182 ntmps182 results182 ?_;unfold fK at h;refine aM ?_;simp only [go_sem];refine aF (aM ?_);simp only [go_sem,seval];refine bJ h (fun c1 h=>?_) (fun c1 h=>?_)
 ·refine aM ?_;simp only [go_sem,seval,c1];refine aQ ?_
  try simp only [aU]
  cases h;refine ⟨by simp,?_⟩;simp only [go_sem,seval,aJ]
 ·refine aV ?_
  refine aF ?_;obtain ⟨x2,h9,h⟩:=aA h;obtain ⟨f6,f7,f8⟩:=aX h9;obtain ⟨vv_k3,bv_k3,HF_k3,k3⟩:=eJ.foc t0 f8;obtain ⟨rs_k3,s10,s11,s12,s13,s14,s15,s16⟩:=k3.rows;have s17:=(eJ.funcsR t0);have s4:=eJ.fpEq t0 f6;have s18:eJ F0 (.pp (oP F0) (a0.f_.toNat*6)) S0 C0 m.hp a0:=by rw [←s4];exact t0
  have s19:=(gF.shC k3.vars);obtain ⟨x5,h23,h⟩:=aA h;obtain ⟨f20,f21,f22⟩:=aX h23;obtain ⟨H28,rs_H28,s24,s25,s26,s27⟩:=gF.readVar k3.vars f22;refine aN fun _ z=>?_;simp only [go_sem,seval,c1,s14,k3.hF,s4,sQ.ix (P:=prog) (k:=.i64) (gF.shC k3.vars) GB f20 f21,s24,s26,w0];apply z;refine aQ ?_;cases h;refine ⟨by simp,?_⟩;simp only [go_sem,seval,aJ]
def BX (f:aD->aI->aB->Option (Int × aI)):Prop:=∀a0 a1 a2 r,f a0 a1 a2=some r->∀(q:Pa) (m:M) (vs:List V) (P0:Pa) (F0 fp0 S0 C0:V),vs.map V.weak1=[.ptr P0 0,.agg ((aB.C a2))]/\m.blk P0=some (nU F0 fp0 S0 C0 a0 a1)/\eJ F0 fp0 S0 C0 m.hp a0->SC prog 184 vs q m (fun v m'=>v=.lit (.int .i64 r.1)/\m'=(m.set P0 (nU F0 fp0 S0 C0 a0 r.2)))
theorem kV (n:Nat):BX (gS n):=by
 rintro a0 a1 a2 r h q m vs P0 F0 fp0 S0 C0 ⟨hv,w0,t0⟩;refine SC.wv hv ?_;refine SC.ap w0 fun u0 l0=>?_
 try simp only [go_sem] at w0 l0
 refine dZ func184 call184 ntmps184 results184 ?_;unfold gS at h;refine aM ?_;simp only [go_sem,seval];refine aF ?_;obtain ⟨x2,h3,h⟩:=aA h;refine aN fun _ z=>?_;simp only [go_sem,seval];refine SC.by_ (uB n a0 a1 a2.cP _ h3 _ _ _ P0 F0 fp0 S0 C0 (by simp only [go_sem,seval,cQ u0,t0,w0])) ?_;simp only [go_sem,seval];apply z;refine aF ?_;obtain ⟨x4,h5,h⟩:=aA h;refine aN fun _ z=>?_;simp only [go_sem,seval];refine SC.by_ (aT a0 a1 (decide (0<=x2)) 130 a2.fQ _ h5 _ _ _ P0 F0 fp0 S0 C0 (by simp only [go_sem,seval,cQ u0,t0,w0])) ?_;simp only [go_sem,seval];apply z;refine aM ?_;simp only [go_sem,seval];refine aQ ?_;cases h;refine ⟨by simp,?_⟩;simp only [go_sem,seval,aO,aJ,bF u0]
def Hg (f:Int->Int->Option Int):Prop:=∀a0 a1 r,f a0 a1=some r->∀(q:Pa) (m:M) (vs:List V),vs.map V.weak1=[.lit (.int .i64 a0),.lit (.int .i64 a1)]->SC prog 223 vs q m (fun v m'=>v=.lit (.int .i64 r)/\m'=m)
theorem Cy:Hg (sP):=by
 intro a0 a1 r h q m vs hv;refine SC.wv hv (dZ func223 call223 ntmps223 results223 ?_);unfold sP at h;refine aM ?_;simp only [go_sem];refine aF (bN (aF ?_));obtain ⟨y1,hy1,h⟩:=aA h;refine gN 13 (fun E' m'=>E' 0=.lit (.int .i64 a0)/\E' 1=.lit (.int .i64 a1)/\E' 5=.lit (.bool y1)/\m'.gl=m.gl/\m.back q m'=m) ?_ ?_
 ·rcases dH hy1 with ⟨c2,hy1⟩ | ⟨c2,hy1⟩
  ·
   rcases dH hy1 with ⟨c3,hy1⟩ | ⟨c3,hy1⟩
   ·refine aN fun _ z=>?_;simp only [go_sem,seval,c2,c3];apply z;cases hy1;refine ⟨by decide,?_⟩;simp only [go_sem,seval,aJ]
   ·refine aN fun _ z=>?_;simp only [go_sem,seval,c2,c3];apply z;cases hy1;refine ⟨by decide,?_⟩;simp only [go_sem,seval,aJ]
  ·refine aN fun _ z=>?_;simp only [go_sem,seval,c2];apply z;cases hy1;refine ⟨by decide,?_⟩;simp only [go_sem,seval,aJ]
 ·intro E4 m5 e6 _;refine bJ h (fun c7 h=>?_) (fun c7 h=>?_)
  ·refine aM ?_;simp only [go_sem,seval,e6];refine aQ ?_
   try simp only [aU,bK]
   cases h;refine ⟨by simp,?_⟩;simp only [go_sem,seval,e6]
  ·refine aF ?_;obtain ⟨y8,hy8,h⟩:=aA h;refine gN 28 (fun E' m'=>E' 18=.lit (.bool y8)/\m'.gl=m.gl/\m.back q m'=m) ?_ ?_
   ·rcases dH hy8 with ⟨c9,hy8⟩ | ⟨c9,hy8⟩
    ·
     rcases dH hy8 with ⟨c10,hy8⟩ | ⟨c10,hy8⟩
     ·refine aN fun _ z=>?_;simp only [go_sem,seval,c9,c10,e6];apply z;cases hy8;refine ⟨by decide,?_⟩;simp only [go_sem,seval,e6]
     ·
      rcases dH hy8 with ⟨c11,hy8⟩ | ⟨c11,hy8⟩
      ·refine aN fun _ z=>?_;simp only [go_sem,seval,c9,c10,c11,e6];apply z;cases hy8;refine ⟨by decide,?_⟩;simp only [go_sem,seval,e6]
      ·refine aN fun _ z=>?_;simp only [go_sem,seval,c9,c10,c11,e6];apply z;cases hy8;refine ⟨by decide,?_⟩;simp only [go_sem,seval,e6]
    ·
     rcases dH hy8 with ⟨c12,hy8⟩ | ⟨c12,hy8⟩
     ·refine aN fun _ z=>?_;simp only [go_sem,seval,c9,c12,e6];apply z;cases hy8;refine ⟨by decide,?_⟩;simp only [go_sem,seval,e6]
     ·refine aN fun _ z=>?_;simp only [go_sem,seval,c9,c12,e6];apply z;cases hy8;refine ⟨by decide,?_⟩;simp only [go_sem,seval,e6]
   ·intro E13 m14 e15 _;refine bJ h (fun c16 h=>?_) (fun c16 h=>?_)
    ·refine aM ?_;simp only [go_sem,seval];refine aQ ?_
     try simp only [aU,bK]
     cases h;refine ⟨by simp,?_⟩;simp only [go_sem,seval,e15]
    ·refine aV ?_
     try simp only [aL,aS]
     refine aM ?_;simp only [go_sem,seval];refine aQ ?_;cases h;refine ⟨by simp,?_⟩;simp only [go_sem,seval,e15]
def Be (f:aD->aI->aG->Int->Option (aG × aI)):Prop:=∀a0 a1 a2 a3 r,f a0 a1 a2 a3=some r->∀(q:Pa) (m:M) (vs:List V) (P0:Pa) (F0 fp0 S0 C0:V),vs.map V.weak1=[.ptr P0 0,.agg ((aG.C a2)),.lit (.int .i64 a3)]/\m.blk P0=some (nU F0 fp0 S0 C0 a0 a1)/\eJ F0 fp0 S0 C0 m.hp a0->SC prog 224 vs q m (fun v m'=>v=.agg ((aG.C r.1))/\m'=(m.set P0 (nU F0 fp0 S0 C0 a0 r.2)))
theorem dD:Be (cT):=by
 rintro a0 a1 a2 a3 r h q m vs P0 F0 fp0 S0 C0 ⟨hv,w0,t0⟩;refine SC.wv hv ?_;refine SC.ap w0 fun u0 l0=>?_
 try simp only [go_sem] at w0 l0
 refine dZ func224 call224 ntmps224 results224 ?_;unfold cT at h;refine aM ?_;simp only [go_sem,seval];refine aF ?_;obtain ⟨x3,h4,h⟩:=aA h;refine aN fun _ z=>?_;simp only [go_sem,seval];refine SC.by_ (aT a0 a1 (a3 != 0) 132 a2.fQ _ h4 _ _ _ P0 F0 fp0 S0 C0 (by simp only [go_sem,seval,cQ u0,t0,w0])) ?_;simp only [go_sem,seval];apply z;refine aM ?_;simp only [go_sem,seval,cQ u0];refine aM ?_;simp only [go_sem,seval,cQ u0];refine aQ ?_;cases h;refine ⟨by simp,?_⟩;simp only [go_sem,seval,aO,aJ,bF u0]
def Bf (f:aD->aI->aG->aG->aG->Option (aG × aI)):Prop:=∀a0 a1 a2 a3 a4 r,f a0 a1 a2 a3 a4=some r->∀(q:Pa) (m:M) (vs:List V) (P0:Pa) (F0 fp0 S0 C0:V),vs.map V.weak1=[.ptr P0 0,.agg ((aG.C a2)),.agg ((aG.C a3)),.agg ((aG.C a4))]/\m.blk P0=some (nU F0 fp0 S0 C0 a0 a1)/\eJ F0 fp0 S0 C0 m.hp a0->SC prog 225 vs q m (fun v m'=>v=.agg ((aG.C r.1))/\m'=(m.set P0 (nU F0 fp0 S0 C0 a0 r.2)))
theorem qB:Bf (gW):=by
 rintro a0 a1 a2 a3 a4 r h q m vs P0 F0 fp0 S0 C0 ⟨hv,w0,t0⟩;refine SC.wv hv ?_;refine SC.ap w0 fun u0 l0=>?_
 try simp only [go_sem] at w0 l0
 refine dZ func225 call225 ntmps225 results225 ?_;unfold gW at h;refine aM ?_;simp only [go_sem,seval];refine aF ?_;obtain ⟨x5,h6,h⟩:=aA h;refine aN fun _ z=>?_;simp only [go_sem,seval];refine SC.by_ (aT a0 a1 (a4.cU == 1) 133 a4.fQ _ h6 _ _ _ P0 F0 fp0 S0 C0 (by simp only [go_sem,seval,cQ u0,t0,w0])) ?_;simp only [go_sem,seval];apply z;refine aF (aM ?_);simp only [go_sem,seval,cQ u0];refine bJ h (fun c7 h=>?_) (fun c7 h=>?_)
 ·obtain ⟨y8,hy8,h⟩:=aA h;refine gN 26 (fun E' m'=>E' 0=.ptr P0 0/\E' 5=.ptr (0::q) 0/\E' 6=.ptr (1::q) 0/\E' 8=.ptr (3::q) 0/\m'.blk P0=some (nU F0 fp0 S0 C0 a0 y8)/\m'.blk (0::q)=some ((aG.C a2))/\m'.blk (1::q)=some ((aG.C a3))/\m'.blk (3::q)=some ([.lit (.string (bs [])),.lit (.int .i64 0),.lit (.int .u32 0),.lit (.int .i64 0),.list .self ([].map aG.C),.lit (.int .i64 0)])/\m'.gl=m.gl/\m'.hp=m.hp/\m.back q m'=(m.set P0 (nU F0 fp0 S0 C0 a0 y8))) ?_ ?_
  ·rcases dH hy8 with ⟨c9,hy8⟩ | ⟨c9,hy8⟩
   ·obtain ⟨x10,h11,hy8⟩:=aA hy8;refine aN fun _ z=>?_;simp only [go_sem,seval,cQ u0,c7,c9];refine SC.by_ (aT a0 x5 (decide (a4.N_<=63)) 132 a2.fQ _ h11 _ _ _ P0 F0 fp0 S0 C0 (by simp only [go_sem,seval,t0])) ?_;simp only [go_sem,seval];apply z;cases hy8;refine ⟨by decide,?_⟩;simp only [go_sem,seval,aO,aJ,bF u0,cQ u0]
   ·obtain ⟨x12,h13,hy8⟩:=aA hy8;refine aN fun _ z=>?_;simp only [go_sem,seval,cQ u0,c7,c9];refine SC.by_ (aT a0 x5 false 132 a2.fQ _ h13 _ _ _ P0 F0 fp0 S0 C0 (by simp only [go_sem,seval,t0])) ?_;simp only [go_sem,seval];apply z;cases hy8;refine ⟨by decide,?_⟩;simp only [go_sem,seval,aO,aJ,bF u0,cQ u0]
  ·intro E14 m15 e16 _;refine aF ?_;obtain ⟨x17,h18,h⟩:=aA h;refine aN fun _ z=>?_;simp only [go_sem,seval,e16];refine SC.by_ (dD a0 y8 a2 a3.cU _ h18 _ _ _ P0 F0 fp0 S0 C0 (by simp only [go_sem,t0,e16])) ?_;simp only [go_sem,seval,cQ u0,e16];apply z;refine aQ ?_;cases h;refine ⟨by simp,?_⟩;simp only [go_sem,seval,aO,bF u0,e16]
 ·refine aV ?_
  refine aF ?_;obtain ⟨x19,h20,h⟩:=aA h;refine aN fun _ z=>?_;simp only [go_sem,seval,cQ u0,c7];refine SC.by_ (dD a0 x5 a2 a3.cU _ h20 _ _ _ P0 F0 fp0 S0 C0 (by simp only [go_sem,seval,t0])) ?_;simp only [go_sem,seval,cQ u0];apply z;refine aQ ?_;cases h;refine ⟨by simp,?_⟩;simp only [go_sem,seval,aO,aJ,bF u0]
def Hc (f:Int->Option Int):Prop:=∀a0 r,f a0=some r->∀(q:Pa) (m:M) (vs:List V),vs.map V.weak1=[.lit (.int .i64 a0)]->SC prog 180 vs q m (fun v m'=>v=.lit (.int .i64 r)/\m'=m)
theorem Cx:Hc (sO):=by
 intro a0 r h q m vs hv;refine SC.wv hv (dZ func180 call180 ntmps180 results180 ?_);unfold sO at h;refine aM ?_;simp only [go_sem];refine aF (aM ?_);simp only [go_sem,seval];refine bJ h (fun c1 h=>?_) (fun c1 h=>?_)
 ·refine aM ?_;simp only [go_sem,seval,c1];refine aQ ?_
  try simp only [aU]
  cases h;refine ⟨by simp,?_⟩;simp only [go_sem,seval,aJ]
 ·refine aV ?_
  refine aM ?_;simp only [go_sem,seval,c1];refine aQ ?_;cases h;refine ⟨by simp,?_⟩;simp only [go_sem,seval,aJ]
def He (f:Int->Option Bool):Prop:=∀a0 r,f a0=some r->∀(q:Pa) (m:M) (vs:List V),vs.map V.weak1=[.lit (.int .i64 a0)]->SC prog 227 vs q m (fun v m'=>v=.lit (.bool r)/\m'=m)
theorem pP:He (pX):=by
 intro a0 r h q m vs hv;refine SC.wv hv (dZ func227 call227 ntmps227 results227 ?_);unfold pX at h;refine aM ?_;simp only [go_sem];refine aF ?_;obtain ⟨y1,hy1,h⟩:=aA h;refine gN 8 (fun E' m'=>E' 2=.lit (.bool y1)/\m'.gl=m.gl/\m.back q m'=m) ?_ ?_
 ·rcases dH hy1 with ⟨c2,hy1⟩ | ⟨c2,hy1⟩
  ·refine aN fun _ z=>?_;simp only [go_sem,seval,c2];apply z;cases hy1;refine ⟨by decide,?_⟩;simp only [go_sem,seval,aJ]
  ·refine aN fun _ z=>?_;simp only [go_sem,seval,c2];apply z;cases hy1;refine ⟨by decide,?_⟩;simp only [go_sem,seval,aJ]
 ·intro E3 m4 e5 _;refine aQ ?_;cases h;refine ⟨by simp,?_⟩;simp only [go_sem,e5]
def AE (f:aD->aI->aG->Option Int):Prop:=∀a0 a1 a2 r,f a0 a1 a2=some r->∀(q:Pa) (m:M) (vs:List V) (P0:Pa) (F0 fp0 S0 C0:V),vs.map V.weak1=[.ptr P0 0,.agg ((aG.C a2))]/\m.blk P0=some (nU F0 fp0 S0 C0 a0 a1)/\eJ F0 fp0 S0 C0 m.hp a0->SC prog 226 vs q m (fun v m'=>v=.lit (.int .i64 r)/\m'=m)
theorem zS:AE (lY):=by
 rintro a0 a1 a2 r h q m vs P0 F0 fp0 S0 C0 ⟨hv,w0,t0⟩;refine SC.wv hv ?_;refine SC.apart w0 fun u0=>?_
 try simp only [go_sem] at w0
 refine dZ func226 call226 ntmps226 results226 ?_;unfold lY at h;refine aM ?_;simp only [go_sem,seval];refine aF ?_;obtain ⟨x2,h8,h⟩:=aA h;obtain ⟨f5,f6,f7⟩:=aX h8;have f9:a2.aP[1]? = some x2:=f7;obtain ⟨x3,h13,h⟩:=aA h;obtain ⟨f10,f11,f12⟩:=aX h13;have f14:a2.aP[2]? = some x3:=f12;obtain ⟨x4,h15,h⟩:=aA h;refine dR (o0 [0,1,2,3,4,5,6,7,8,9,10,11]) 14 fun _ z=>?_;simp only [go_sem,seval,f5,f6,f9,f10,f11,f14];refine cB (Cy x2.cU x3.cU _ h15 _ _ _ (by simp only [go_sem])) rfl ?_;simp only [go_sem,seval];apply z;refine aF (aF ?_);obtain ⟨y16,hy16,h⟩:=aA h;refine gN 25 (fun E' m'=>E' 5=.lit (.int .i64 x4)/\E' 27=.lit (.bool y16)/\m'.blk P0=some (nU F0 fp0 S0 C0 a0 a1)/\m'.gl=m.gl/\m'.hp=m.hp/\m.back q m'=m) ?_ ?_
 ·obtain ⟨x17,h22,hy16⟩:=aA hy16;obtain ⟨f19,f20,f21⟩:=aX h22;have f23:a2.aP[0]? = some x17:=f21;obtain ⟨x18,h24,hy16⟩:=aA hy16
  rcases dH hy16 with ⟨c25,hy16⟩ | ⟨c25,hy16⟩
  ·refine aN fun _ z=>?_;simp only [go_sem,seval,f19,f20,f23];refine SC.by_ (pP x17.cU _ h24 _ _ _ (by simp only [go_sem])) ?_;simp only [go_sem,seval,c25];apply z;cases hy16;refine ⟨by decide,?_⟩;simp only [go_sem,seval,aO,aJ,cQ u0,w0]
  ·refine aN fun _ z=>?_;simp only [go_sem,seval,f19,f20,f23];refine SC.by_ (pP x17.cU _ h24 _ _ _ (by simp only [go_sem])) ?_;simp only [go_sem,seval,c25];apply z;cases hy16;refine ⟨by decide,?_⟩;simp only [go_sem,seval,aO,aJ,cQ u0,w0]
 ·intro E26 m27 e28 _;refine bJ h (fun c29 h=>?_) (fun c29 h=>?_)
  ·refine aM ?_;simp only [go_sem,seval];refine aQ ?_
   try simp only [aU]
   cases h;refine ⟨by simp,?_⟩;simp only [go_sem,seval,e28]
  ·refine aV ?_
   refine aF ?_;obtain ⟨x30,h31,h⟩:=aA h;refine aN fun _ z=>?_;simp only [go_sem,seval,e28];refine SC.by_ (Cx x4 _ h31 _ _ _ (by simp only [go_sem])) ?_;simp only [go_sem,seval];apply z;refine aQ ?_;cases h;refine ⟨by simp,?_⟩;simp only [go_sem,seval,e28]
def lX (f:aD->aI->aB->Option (aG × aI)):Prop:=∀a0 a1 a2 r,f a0 a1 a2=some r->∀(q:Pa) (m:M) (vs:List V) (P0:Pa) (F0 fp0 S0 C0:V),vs.map V.weak1=[.ptr P0 0,.agg ((aB.C a2))]/\m.blk P0=some (nU F0 fp0 S0 C0 a0 a1)/\eJ F0 fp0 S0 C0 m.hp a0/\m.gl 0=.eptr [(cA bM.C cZ)] 0 0->SC prog 178 vs q m (fun v m'=>v=.agg ((aG.C r.1))/\m'=(m.set P0 (nU F0 fp0 S0 C0 a0 r.2)))
def rD (f:aD->aI->aB->aG->Option (aG × aI)):Prop:=∀a0 a1 a2 a3 r,f a0 a1 a2 a3=some r->∀(q:Pa) (m:M) (vs:List V) (P0:Pa) (F0 fp0 S0 C0:V),vs.map V.weak1=[.ptr P0 0,.agg ((aB.C a2)),.agg ((aG.C a3))]/\m.blk P0=some (nU F0 fp0 S0 C0 a0 a1)/\eJ F0 fp0 S0 C0 m.hp a0/\m.gl 0=.eptr [(cA bM.C cZ)] 0 0->SC prog 204 vs q m (fun v m'=>v=.agg ((aG.C r.1))/\m'=(m.set P0 (nU F0 fp0 S0 C0 a0 r.2)))
def qL (f:aD->aI->aB->aG->Option (aG × aI)):Prop:=∀a0 a1 a2 a3 r,f a0 a1 a2 a3=some r->∀(q:Pa) (m:M) (vs:List V) (P0:Pa) (F0 fp0 S0 C0:V),vs.map V.weak1=[.ptr P0 0,.agg ((aB.C a2)),.agg ((aG.C a3))]/\m.blk P0=some (nU F0 fp0 S0 C0 a0 a1)/\eJ F0 fp0 S0 C0 m.hp a0/\m.gl 0=.eptr [(cA bM.C cZ)] 0 0->SC prog 205 vs q m (fun v m'=>v=.agg ((aG.C r.1))/\m'=(m.set P0 (nU F0 fp0 S0 C0 a0 r.2)))
def qC (f:aD->aI->aB->aG->Option (aG × aI)):Prop:=∀a0 a1 a2 a3 r,f a0 a1 a2 a3=some r->∀(q:Pa) (m:M) (vs:List V) (P0:Pa) (F0 fp0 S0 C0:V),vs.map V.weak1=[.ptr P0 0,.agg ((aB.C a2)),.agg ((aG.C a3))]/\m.blk P0=some (nU F0 fp0 S0 C0 a0 a1)/\eJ F0 fp0 S0 C0 m.hp a0/\m.gl 0=.eptr [(cA bM.C cZ)] 0 0->SC prog 206 vs q m (fun v m'=>v=.agg ((aG.C r.1))/\m'=(m.set P0 (nU F0 fp0 S0 C0 a0 r.2)))
def pL (f:aD->aI->aB->aG->Option (aG × aI)):Prop:=∀a0 a1 a2 a3 r,f a0 a1 a2 a3=some r->∀(q:Pa) (m:M) (vs:List V) (P0:Pa) (F0 fp0 S0 C0:V),vs.map V.weak1=[.ptr P0 0,.agg ((aB.C a2)),.agg ((aG.C a3))]/\m.blk P0=some (nU F0 fp0 S0 C0 a0 a1)/\eJ F0 fp0 S0 C0 m.hp a0/\m.gl 0=.eptr [(cA bM.C cZ)] 0 0->SC prog 207 vs q m (fun v m'=>v=.agg ((aG.C r.1))/\m'=(m.set P0 (nU F0 fp0 S0 C0 a0 r.2)))
def nE (f:aD->aI->(List aB)->Option ((List aG) × aI)):Prop:=∀a0 a1 a2 r,f a0 a1 a2=some r->∀(q:Pa) (m:M) (vs:List V) (P0:Pa) (F0 fp0 S0 C0:V),vs.map V.weak1=[.ptr P0 0,.list .none (a2.map aB.C)]/\m.blk P0=some (nU F0 fp0 S0 C0 a0 a1)/\eJ F0 fp0 S0 C0 m.hp a0/\m.gl 0=.eptr [(cA bM.C cZ)] 0 0->SC prog 222 vs q m (fun v m'=>v=.list .none (r.1.map aG.C)/\m'=(m.set P0 (nU F0 fp0 S0 C0 a0 r.2)))
theorem zQ {nR} (zY:rD nR) {mP} (yY:qL mP) {lH} (xS:qC lH) {lC} (wZ:pL lC) (n:Nat):lX (lW nR mP lH lC n):=by
 rintro a0 a1 a2 r h q m vs P0 F0 fp0 S0 C0 ⟨hv,w0,t0,hg0⟩;refine SC.wv hv ?_;refine SC.ap w0 fun u0 l0=>?_
 try simp only [go_sem] at w0 l0
 refine dZ func178 call178 ntmps178 results178 ?_;unfold lW at h;refine aM ?_;simp only [go_sem,seval];refine aM ?_;simp only [go_sem,seval];refine aF (aM ?_);simp only [go_sem,seval];refine bN (aM ?_);simp only [go_sem,seval];refine bJ h (fun c4 h=>?_) (fun c4 h=>?_)
 ·refine aF (dR [(2,0),(3,0),(4,0),(5,0),(0,0),(1,2),(6,0),(7,0)] 19 fun _ z=>?_);simp only [go_sem,seval,c4];apply z;refine aM ?_;simp only [go_sem,seval];refine aQ ?_
  try simp only [aU,bK]
  cases h;refine ⟨by simp,?_⟩;simp only [go_sem,seval,aO,cM,aJ,l0]
 ·refine aM ?_;simp only [go_sem,seval,c4];refine bJ h (fun c5 h=>?_) (fun c5 h=>?_)
  ·refine aF ?_;obtain ⟨x6,h7,h⟩:=aA h;refine aN fun _ z=>?_;simp only [go_sem,seval,c5];refine SC.by_ (kV n a0 a1 a2 _ h7 _ _ _ P0 F0 fp0 S0 C0 (by simp only [go_sem,seval,cQ u0,t0,w0])) ?_;simp only [go_sem,seval,cQ u0];apply z;refine aF ?_;obtain ⟨x8,h9,h⟩:=aA h;refine aN fun _ z=>?_;simp only [go_sem,seval];refine SC.by_ (gL a0 x6.2 x6.1 _ h9 _ _ _ P0 F0 fp0 S0 C0 (by simp only [go_sem,seval,cQ u0,t0])) ?_;simp only [go_sem,seval];apply z;refine aF ?_;obtain ⟨x10,h11,h⟩:=aA h;refine aN fun _ z=>?_;simp only [go_sem,seval,cQ u0];refine SC.by_ (aT a0 x6.2 (x8 != 4) 132 a2.fQ _ h11 _ _ _ P0 F0 fp0 S0 C0 (by simp only [go_sem,seval,cQ u0,t0])) ?_;simp only [go_sem,seval];apply z;refine aM ?_;simp only [go_sem,seval,cQ u0];refine aM ?_;simp only [go_sem,seval,cQ u0];refine aQ ?_
   try simp only [aU,bK]
   cases h;refine ⟨by simp,?_⟩;simp only [go_sem,seval,aO,cM,aJ,bF u0]
  ·refine aM ?_;simp only [go_sem,seval,c5];refine bJ h (fun c12 h=>?_) (fun c12 h=>?_)
   ·refine aF ?_;obtain ⟨x13,h14,h⟩:=aA h;refine aN fun _ z=>?_;simp only [go_sem,seval,c12];refine SC.by_ (zY a0 a1 a2 (aG.mk [] 0 0 (-1:Int) [] a2.fQ) _ h14 _ _ _ P0 F0 fp0 S0 C0 (by simp only [go_sem,seval,cQ u0,t0,w0,hg0])) ?_;simp only [go_sem,seval,cQ u0];apply z;refine aQ ?_
    try simp only [aU,bK]
    cases h;refine ⟨by simp,?_⟩;simp only [go_sem,seval,aO,cM,aJ,bF u0]
   ·refine aM ?_;simp only [go_sem,seval,c12];refine bJ h (fun c15 h=>?_) (fun c15 h=>?_)
    ·refine aF ?_;obtain ⟨x16,h17,h⟩:=aA h;refine aN fun _ z=>?_;simp only [go_sem,seval,c15];refine SC.by_ (yY a0 a1 a2 (aG.mk [] 0 0 (-1:Int) [] a2.fQ) _ h17 _ _ _ P0 F0 fp0 S0 C0 (by simp only [go_sem,seval,cQ u0,t0,w0,hg0])) ?_;simp only [go_sem,seval,cQ u0];apply z;refine aQ ?_
     try simp only [aU,bK]
     cases h;refine ⟨by simp,?_⟩;simp only [go_sem,seval,aO,cM,aJ,bF u0]
    ·refine aM ?_;simp only [go_sem,seval,c15];refine bJ h (fun c18 h=>?_) (fun c18 h=>?_)
     ·refine aF ?_;obtain ⟨x19,h20,h⟩:=aA h;refine aN fun _ z=>?_;simp only [go_sem,seval,c18];refine SC.by_ (xS a0 a1 a2 (aG.mk [] 0 0 (-1:Int) [] a2.fQ) _ h20 _ _ _ P0 F0 fp0 S0 C0 (by simp only [go_sem,seval,cQ u0,t0,w0,hg0])) ?_;simp only [go_sem,seval,cQ u0];apply z;refine aQ ?_
      try simp only [aU,bK]
      cases h;refine ⟨by simp,?_⟩;simp only [go_sem,seval,aO,cM,aJ,bF u0]
     ·refine aV ?_
      try simp only [aL,aS]
      refine aF ?_;obtain ⟨x21,h22,h⟩:=aA h;refine aN fun _ z=>?_;simp only [go_sem,seval,c18];refine SC.by_ (wZ a0 a1 a2 (aG.mk [] 0 0 (-1:Int) [] a2.fQ) _ h22 _ _ _ P0 F0 fp0 S0 C0 (by simp only [go_sem,seval,cQ u0,t0,w0,hg0])) ?_;simp only [go_sem,seval,cQ u0];apply z;refine aQ ?_;cases h;refine ⟨by simp,?_⟩;simp only [go_sem,seval,aO,cM,aJ,bF u0]
theorem zP {dL} (pM:lX dL) (n:Nat):rD (lV dL n):=by
 rintro a0 a1 a2 a3 r h q m vs P0 F0 fp0 S0 C0 ⟨hv,w0,t0,hg0⟩;refine SC.wv hv ?_;refine SC.ap w0 fun u0 l0=>?_
 try simp only [go_sem] at w0 l0
 refine dZ func204 call204 ntmps204 results204 ?_;unfold lV at h;refine aM ?_;simp only [go_sem,seval];refine aF ?_;obtain ⟨x4,h10,h⟩:=aA h;obtain ⟨f7,f8,f9⟩:=aX h10;have f11:a2.aP[0]? = some x4:=f9;obtain ⟨x5,h12,h⟩:=aA h;refine aN fun _ z=>?_;simp only [go_sem,seval,f7,f8,f11];refine SC.by_ (pM a0 a1 x4 _ h12 _ _ _ P0 F0 fp0 S0 C0 (by simp only [go_sem,seval,cQ u0,t0,w0,hg0])) ?_;simp only [go_sem,seval];apply z;refine aF ?_;obtain ⟨x13,h14,h⟩:=aA h;refine aN fun _ z=>?_;simp only [go_sem,seval,cQ u0];refine SC.by_ (kV n a0 x5.2 a2 _ h14 _ _ _ P0 F0 fp0 S0 C0 (by simp only [go_sem,seval,cQ u0,t0])) ?_;simp only [go_sem,seval,cQ u0];apply z;refine aF ?_;obtain ⟨x15,h17,h⟩:=aA h;obtain ⟨x16,h18,h⟩:=aA h;refine dR [(1,0),(2,0),(3,0),(4,0),(0,0),(5,0),(6,0),(7,1),(8,0)] 29 fun _ z=>?_;simp only [go_sem,seval];refine cB (gL a0 x13.2 x13.1 _ h17 _ _ _ P0 F0 fp0 S0 C0 (by simp only [go_sem,seval,cQ u0,t0])) rfl ?_;simp only [go_sem,seval,cQ u0];refine cB (aT a0 x13.2 (x15 == 4) 132 a2.fQ _ h18 _ _ _ P0 F0 fp0 S0 C0 (by simp only [go_sem,seval,cQ u0,t0])) rfl ?_;simp only [go_sem];apply z;refine aF ?_;obtain ⟨x19,h20,h⟩:=aA h;refine aN fun _ z=>?_;simp only [go_sem,seval,cQ u0];refine SC.by_ (aT a0 x16 (x5.1.cU == 1) 133 x5.1.fQ _ h20 _ _ _ P0 F0 fp0 S0 C0 (by simp only [go_sem,seval,t0])) ?_;simp only [go_sem,seval];apply z;refine aF (aF ?_);obtain ⟨y21,hy21,h⟩:=aA h;refine gN 46 (fun E' m'=>E' 0=.ptr P0 0/\E' 5=.ptr (1::q) 0/\E' 6=.ptr (2::q) 0/\E' 7=.ptr (9::q) 0/\E' 45=.lit (.bool y21)/\m'.blk P0=some (nU F0 fp0 S0 C0 a0 x19)/\m'.blk (1::q)=some ((aG.C ({ a3 with lE:=([105,110,100,101,120]:cR),cU:=2,mD:=x13.1 }:aG)))/\m'.blk (2::q)=some ([.lit (.string (bs [])),.lit (.int .i64 0),.lit (.int .u32 0),.lit (.int .i64 0),.list .self ([].map aG.C),.lit (.int .i64 0)])/\m'.blk (9::q)=some ((aG.C x5.1))/\m'.gl=m.gl/\m'.hp=m.hp/\m.back q m'=(m.set P0 (nU F0 fp0 S0 C0 a0 x19))) ?_ ?_
 ·rcases dH hy21 with ⟨c22,hy21⟩ | ⟨c22,hy21⟩
  ·refine aN fun _ z=>?_;simp only [go_sem,seval,cQ u0,c22];apply z;cases hy21;refine ⟨by decide,?_⟩;simp only [go_sem,seval,aO,aJ,bF u0,cQ u0]
  ·refine aN fun _ z=>?_;simp only [go_sem,seval,c22];apply z;cases hy21;refine ⟨by decide,?_⟩;simp only [go_sem,seval,aO,aJ,bF u0,cQ u0]
 ·intro E23 m24 e25 _;refine bJ h (fun c26 h=>?_) (fun c26 h=>?_)
  ·obtain ⟨x27,h35,h⟩:=aA h;obtain ⟨f32,f33,f34⟩:=aX h35;obtain ⟨vv_k28,bv_k28,HF_k28,k28⟩:=eJ.foc t0 f34;obtain ⟨rs_k28,s36,s37,s38,s39,s40,s41,s42⟩:=k28.rows;have s43:=(eJ.funcsR t0);have s29:=eJ.fpEq t0 f32;have s44:eJ F0 (.pp (oP F0) (a0.f_.toNat*6)) S0 C0 m.hp a0:=by rw [←s29];exact t0
   have s45:=(gF.shC k28.vars);obtain ⟨x30,h49,h⟩:=aA h;obtain ⟨f46,f47,f48⟩:=aX h49;obtain ⟨H54,rs_H54,s50,s51,s52,s53⟩:=gF.readVar k28.vars f48;obtain ⟨x31,h55,h⟩:=aA h;refine dR (o0 [0,1,2,3,4,5,6,7,8,9,10,11,12,13,14,15,16,17,18,19]) 66 fun _ z=>?_;simp only [go_sem,seval,s40,k28.hF,s29,sQ.ix (P:=prog) (k:=.i64) (gF.shC k28.vars) GB f46 f47,s50,s53,e25];refine cB (aT a0 x19 (decide ((i64.wrap x5.1.N_)<x30.iV)) 137 x5.1.fQ _ h55 _ _ _ P0 F0 fp0 S0 C0 (by simp only [go_sem,s29,s44,e25])) rfl ?_;simp only [go_sem,s29];apply z;refine aM ?_;simp only [go_sem,seval,cQ u0,e25];refine aM ?_;simp only [go_sem,seval,cQ u0,e25];refine aQ ?_;cases h;refine ⟨by simp,?_⟩;simp only [go_sem,seval,aO,cM,bF u0,s29,e25]
  ·refine aV ?_
   refine aM ?_;simp only [go_sem,seval,e25];refine aM ?_;simp only [go_sem,seval,e25];refine aQ ?_;cases h;refine ⟨by simp,?_⟩;simp only [go_sem,seval,aO,cM,e25]
theorem yM {dJ} (kM:nE dJ) (n:Nat):qL (kU dJ n):=by
 rintro a0 a1 a2 a3 r h q m vs P0 F0 fp0 S0 C0 ⟨hv,w0,t0,hg0⟩;refine SC.wv hv ?_;refine SC.ap w0 fun u0 l0=>?_
 try simp only [go_sem] at w0 l0
 refine dZ func205 call205 ntmps205 results205 ?_;unfold kU at h;refine aM ?_;simp only [go_sem,seval];refine aF ?_;obtain ⟨x4,h5,h⟩:=aA h;refine aN fun _ z=>?_;simp only [go_sem,seval];refine SC.by_ (kM a0 a1 a2.aP _ h5 _ _ _ P0 F0 fp0 S0 C0 (by simp only [go_sem,seval,cQ u0,t0,w0,hg0])) ?_;simp only [go_sem,seval,cQ u0];apply z;refine aM ?_;simp only [go_sem,seval];refine aF (aM ?_);simp only [go_sem,seval,cQ u0];refine bJ h (fun c6 h=>?_) (fun c6 h=>?_)
 ·refine aN fun _ z=>?_;simp only [go_sem,seval,c6];apply z;refine aF ?_;obtain ⟨x7,h11,h⟩:=aA h;obtain ⟨f8,f9,f10⟩:=aX h11;have f12:x4.1[0]? = some x7:=f10;refine aN fun _ z=>?_;simp only [go_sem,seval,f8,f9,f12];apply z;refine aM ?_;simp only [go_sem,seval,cQ u0];refine aQ ?_;cases h;refine ⟨by simp,?_⟩;simp only [go_sem,seval,aO,aJ,bF u0]
 ·refine aV ?_
  refine aF ?_;obtain ⟨x13,h17,h⟩:=aA h;obtain ⟨f14,f15,f16⟩:=aX h17;have f18:x4.1[0]? = some x13:=f16;refine aN fun _ z=>?_;simp only [go_sem,seval,c6,f14,f15,f18];apply z;refine aM ?_;simp only [go_sem,seval,cQ u0];refine aQ ?_;cases h;refine ⟨by simp,?_⟩;simp only [go_sem,seval,aO,aJ,bF u0]
theorem xN {dJ} (kM:nE dJ) (n:Nat):qC (kK dJ n):=by
 rintro a0 a1 a2 a3 r h q m vs P0 F0 fp0 S0 C0 ⟨hv,w0,t0,hg0⟩;refine SC.wv hv ?_;refine SC.ap w0 fun u0 l0=>?_
 try simp only [go_sem] at w0 l0
 refine dZ func206 call206 ntmps206 results206 ?_;unfold kK at h;refine aM ?_;simp only [go_sem,seval];refine aF ?_;obtain ⟨x4,h5,h⟩:=aA h;refine dR [(2,0),(3,0),(4,0),(5,0),(0,0),(1,1),(6,0),(7,0),(8,0),(9,0)] 13 fun _ z=>?_;simp only [go_sem,seval];refine cB (kM a0 a1 a2.aP _ h5 _ _ _ P0 F0 fp0 S0 C0 (by simp only [go_sem,seval,cQ u0,t0,w0,hg0])) rfl ?_;simp only [go_sem,seval,cQ u0];apply z;refine aF ?_;obtain ⟨x6,h13,h⟩:=aA h;obtain ⟨f10,f11,f12⟩:=aX h13;have f14:x4.1[0]? = some x6:=f12;obtain ⟨x9,h18,h⟩:=aA h;obtain ⟨f15,f16,f17⟩:=aX h18;have f19:x4.1[1]? = some x9:=f17;refine dR [(0,0),(1,0),(2,0),(3,0),(8,0),(9,0),(10,0),(4,0),(5,1),(6,0),(7,1),(11,0)] 25 fun _ z=>?_;simp only [go_sem,seval,f10,f11,f14,f15,f16,f19];apply z;refine aF ?_;obtain ⟨x20,h21,h⟩:=aA h;refine aN fun _ z=>?_;simp only [go_sem,seval];refine SC.by_ (Cy x6.cU x9.cU _ h21 _ _ _ (by simp only [go_sem])) ?_;simp only [go_sem,seval];apply z;refine aF (aM ?_);simp only [go_sem,seval,cQ u0];refine bN (aF (aM ?_));simp only [go_sem,seval];refine bJ h (fun c22 h=>?_) (fun c22 h=>?_)
 ·refine aV ?_
  refine iB true (by simp only [go_sem,seval,c22]) ?_;simp only [↓reduceIte];refine aF ?_;obtain ⟨x23,h24,h⟩:=aA h;refine aN fun _ z=>?_;simp only [go_sem,seval,c22];refine SC.by_ (aT a0 x4.2 (x6.cU == 1) 133 x6.fQ _ h24 _ _ _ P0 F0 fp0 S0 C0 (by simp only [go_sem,seval,cQ u0,t0])) ?_;simp only [go_sem,seval];apply z;refine aF ?_;obtain ⟨x25,h26,h⟩:=aA h;refine aN fun _ z=>?_;simp only [go_sem,seval,cQ u0];refine SC.by_ (aT a0 x23 (x9.cU == 1) 133 x9.fQ _ h26 _ _ _ P0 F0 fp0 S0 C0 (by simp only [go_sem,seval,t0])) ?_;simp only [go_sem,seval];apply z;refine aF ?_;obtain ⟨x27,h28,h⟩:=aA h;refine aN fun _ z=>?_;simp only [go_sem,seval,cQ u0];refine SC.by_ (dD a0 x25 ({ a3 with lE:=a2.cP,aP:=x4.1 }:aG) 1 _ h28 _ _ _ P0 F0 fp0 S0 C0 (by simp only [go_sem,seval,t0])) ?_;simp only [go_sem,seval,cQ u0];apply z;refine aQ ?_
  try simp only [aU,bK]
  cases h;refine ⟨by simp,?_⟩;simp only [go_sem,seval,aO,aJ,bF u0]
 ·refine aN fun _ z=>?_;simp only [go_sem,seval,c22];apply z;refine bJ h (fun c29 h=>?_) (fun c29 h=>?_)
  ·refine aF ?_;obtain ⟨x30,h31,h⟩:=aA h;refine aN fun _ z=>?_;simp only [go_sem,seval,c29];refine SC.by_ (aT a0 x4.2 (x6.cU == 1) 133 x6.fQ _ h31 _ _ _ P0 F0 fp0 S0 C0 (by simp only [go_sem,seval,cQ u0,t0])) ?_;simp only [go_sem,seval];apply z;refine aF ?_;obtain ⟨x32,h33,h⟩:=aA h;refine aN fun _ z=>?_;simp only [go_sem,seval,cQ u0];refine SC.by_ (aT a0 x30 (x9.cU == 1) 133 x9.fQ _ h33 _ _ _ P0 F0 fp0 S0 C0 (by simp only [go_sem,seval,t0])) ?_;simp only [go_sem,seval];apply z;refine aF ?_;obtain ⟨x34,h35,h⟩:=aA h;refine aN fun _ z=>?_;simp only [go_sem,seval,cQ u0];refine SC.by_ (dD a0 x32 ({ a3 with lE:=a2.cP,aP:=x4.1 }:aG) 1 _ h35 _ _ _ P0 F0 fp0 S0 C0 (by simp only [go_sem,seval,t0])) ?_;simp only [go_sem,seval,cQ u0];apply z;refine aQ ?_
   try simp only [aU,bK]
   cases h;refine ⟨by simp,?_⟩;simp only [go_sem,seval,aO,aJ,bF u0]
  ·refine aF (aM ?_);simp only [go_sem,seval,c29];refine bJ h (fun c36 h=>?_) (fun c36 h=>?_)
   ·refine aV ?_
    refine iB true (by simp only [go_sem,seval,c36]) ?_;simp only [↓reduceIte];refine aF ?_;obtain ⟨x37,h38,h⟩:=aA h;refine aN fun _ z=>?_;simp only [go_sem,seval,c36];refine SC.by_ (qB a0 x4.2 ({ a3 with lE:=a2.cP,aP:=x4.1 }:aG) x6 x9 _ h38 _ _ _ P0 F0 fp0 S0 C0 (by simp only [go_sem,seval,cQ u0,t0])) ?_;simp only [go_sem,seval,cQ u0];apply z;refine aQ ?_
    try simp only [aU,bK]
    cases h;refine ⟨by simp,?_⟩;simp only [go_sem,seval,aO,aJ,bF u0]
   ·refine aM ?_;simp only [go_sem,seval,c36];refine bJ h (fun c39 h=>?_) (fun c39 h=>?_)
    ·refine aV ?_
     refine iB true (by simp only [go_sem,seval,c39]) ?_;simp only [↓reduceIte];refine aF ?_;obtain ⟨x40,h41,h⟩:=aA h;refine aN fun _ z=>?_;simp only [go_sem,seval,c39];refine SC.by_ (qB a0 x4.2 ({ a3 with lE:=a2.cP,aP:=x4.1 }:aG) x6 x9 _ h41 _ _ _ P0 F0 fp0 S0 C0 (by simp only [go_sem,seval,cQ u0,t0])) ?_;simp only [go_sem,seval,cQ u0];apply z;refine aQ ?_
     try simp only [aU,bK]
     cases h;refine ⟨by simp,?_⟩;simp only [go_sem,seval,aO,aJ,bF u0]
    ·refine aN fun _ z=>?_;simp only [go_sem,seval,c39];apply z;refine bJ h (fun c42 h=>?_) (fun c42 h=>?_)
     ·refine aF ?_;obtain ⟨x43,h44,h⟩:=aA h;refine aN fun _ z=>?_;simp only [go_sem,seval,c42];refine SC.by_ (qB a0 x4.2 ({ a3 with lE:=a2.cP,aP:=x4.1 }:aG) x6 x9 _ h44 _ _ _ P0 F0 fp0 S0 C0 (by simp only [go_sem,seval,cQ u0,t0])) ?_;simp only [go_sem,seval,cQ u0];apply z;refine aQ ?_
      try simp only [aU,bK]
      cases h;refine ⟨by simp,?_⟩;simp only [go_sem,seval,aO,aJ,bF u0]
     ·refine aM ?_;simp only [go_sem,seval,c42];refine bJ h (fun c45 h=>?_) (fun c45 h=>?_)
      ·obtain ⟨x46,h47,h⟩:=aA h;refine fB fun _ z=>?_;simp only [go_sem,seval,cQ u0,c45];refine SC.by_ (aT a0 x4.2 (x20 != 3) 132 a2.fQ _ h47 _ _ _ P0 F0 fp0 S0 C0 (by simp only [go_sem,seval,cQ u0,t0])) ?_;simp only [go_sem,seval];apply z;simp only [aL,aS];refine aF ?_;obtain ⟨x48,h49,h⟩:=aA h;refine aN fun _ z=>?_;simp only [go_sem,seval,cQ u0];refine SC.by_ (dD a0 x46 ({ a3 with lE:=a2.cP,aP:=x4.1 }:aG) x20 _ h49 _ _ _ P0 F0 fp0 S0 C0 (by simp only [go_sem,seval,t0])) ?_;simp only [go_sem,seval,cQ u0];apply z;refine aQ ?_;cases h;refine ⟨by simp,?_⟩;simp only [go_sem,seval,aO,aJ,bF u0]
      ·refine aF (aM ?_);simp only [go_sem,seval,c45];refine bJ h (fun c50 h=>?_) (fun c50 h=>?_)
       ·refine aV ?_
        refine iB true (by simp only [go_sem,seval,c50]) ?_;simp only [↓reduceIte];refine aM ?_;simp only [go_sem,seval,c50];refine bJ h (fun c51 h=>?_) (fun c51 h=>?_)
        ·refine fB fun _ z=>?_;simp only [go_sem,seval,c51];apply z;simp only [aL,aS];refine aF ?_;obtain ⟨x52,h53,h⟩:=aA h;refine aN fun _ z=>?_;simp only [go_sem,seval];refine SC.by_ (dD a0 x4.2 ({ a3 with lE:=a2.cP,aP:=x4.1 }:aG) 2 _ h53 _ _ _ P0 F0 fp0 S0 C0 (by simp only [go_sem,seval,cQ u0,t0])) ?_;simp only [go_sem,seval,cQ u0];apply z;refine aQ ?_;cases h;refine ⟨by simp,?_⟩;simp only [go_sem,seval,aO,aJ,bF u0]
        ·refine aV ?_
         try simp only [aL,aS]
         refine aF ?_;obtain ⟨x54,h55,h⟩:=aA h;refine aN fun _ z=>?_;simp only [go_sem,seval,c51];refine SC.by_ (dD a0 x4.2 ({ a3 with lE:=a2.cP,aP:=x4.1 }:aG) x20 _ h55 _ _ _ P0 F0 fp0 S0 C0 (by simp only [go_sem,seval,cQ u0,t0])) ?_;simp only [go_sem,seval,cQ u0];apply z;refine aQ ?_;cases h;refine ⟨by simp,?_⟩;simp only [go_sem,seval,aO,aJ,bF u0]
       ·refine aN fun _ z=>?_;simp only [go_sem,seval,c50];apply z;refine bJ h (fun c56 h=>?_) (fun c56 h=>?_)
        ·refine aM ?_;simp only [go_sem,seval,c56];refine bJ h (fun c57 h=>?_) (fun c57 h=>?_)
         ·refine fB fun _ z=>?_;simp only [go_sem,seval,c57];apply z;simp only [aL,aS];refine aF ?_;obtain ⟨x58,h59,h⟩:=aA h;refine aN fun _ z=>?_;simp only [go_sem,seval];refine SC.by_ (dD a0 x4.2 ({ a3 with lE:=a2.cP,aP:=x4.1 }:aG) 2 _ h59 _ _ _ P0 F0 fp0 S0 C0 (by simp only [go_sem,seval,cQ u0,t0])) ?_;simp only [go_sem,seval,cQ u0];apply z;refine aQ ?_;cases h;refine ⟨by simp,?_⟩;simp only [go_sem,seval,aO,aJ,bF u0]
         ·refine aV ?_
          try simp only [aL,aS]
          refine aF ?_;obtain ⟨x60,h61,h⟩:=aA h;refine aN fun _ z=>?_;simp only [go_sem,seval,c57];refine SC.by_ (dD a0 x4.2 ({ a3 with lE:=a2.cP,aP:=x4.1 }:aG) x20 _ h61 _ _ _ P0 F0 fp0 S0 C0 (by simp only [go_sem,seval,cQ u0,t0])) ?_;simp only [go_sem,seval,cQ u0];apply z;refine aQ ?_;cases h;refine ⟨by simp,?_⟩;simp only [go_sem,seval,aO,aJ,bF u0]
        ·refine aV ?_
         try simp only [aL,aS]
         refine aF ?_;obtain ⟨x62,h63,h⟩:=aA h;refine aN fun _ z=>?_;simp only [go_sem,seval,c56];refine SC.by_ (dD a0 x4.2 ({ a3 with lE:=a2.cP,aP:=x4.1 }:aG) x20 _ h63 _ _ _ P0 F0 fp0 S0 C0 (by simp only [go_sem,seval,cQ u0,t0])) ?_;simp only [go_sem,seval,cQ u0];apply z;refine aQ ?_;cases h;refine ⟨by simp,?_⟩;simp only [go_sem,seval,aO,aJ,bF u0]
theorem wY {dJ} (kM:nE dJ) (n:Nat):pL (jX dJ n):=by
 rintro a0 a1 a2 a3 r h q m vs P0 F0 fp0 S0 C0 ⟨hv,w0,t0,hg0⟩;refine SC.wv hv ?_;refine SC.ap w0 fun u0 l0=>?_
 try simp only [go_sem] at w0 l0
 refine dZ func207 call207 ntmps207 results207 ?_;unfold jX at h;refine aM ?_;simp only [go_sem,seval];refine aF ?_;obtain ⟨x4,h5,h⟩:=aA h;refine aN fun _ z=>?_;simp only [go_sem,seval];refine SC.by_ (AO n a2.cP _ h5 _ _ _ (by simp only [go_sem,hg0])) ?_;simp only [go_sem,seval];apply z;refine aF ?_;obtain ⟨x6,h7,h⟩:=aA h;refine aN fun _ z=>?_;simp only [go_sem,seval];refine SC.by_ (aT a0 a1 (decide (0<x4)) 130 a2.fQ _ h7 _ _ _ P0 F0 fp0 S0 C0 (by simp only [go_sem,seval,cQ u0,t0,w0])) ?_;simp only [go_sem,seval];apply z;refine aF ?_;obtain ⟨x8,h9,h⟩:=aA h;refine aN fun _ z=>?_;simp only [go_sem,seval,cQ u0];refine SC.by_ (aT a0 x6 ((a2.aP.length:Int) == x4) 136 a2.fQ _ h9 _ _ _ P0 F0 fp0 S0 C0 (by simp only [go_sem,seval,t0])) ?_;simp only [go_sem,seval];apply z;refine aF ?_;obtain ⟨x10,h11,h⟩:=aA h;refine dR [(2,0),(3,0),(4,0),(5,0),(0,0),(1,1),(6,0),(7,0),(8,0),(9,0)] 32 fun _ z=>?_;simp only [go_sem,seval,cQ u0];refine cB (kM a0 x8 a2.aP _ h11 _ _ _ P0 F0 fp0 S0 C0 (by simp only [go_sem,seval,t0,hg0])) rfl ?_;simp only [go_sem,seval,cQ u0];apply z;refine aF (aM ?_);simp only [go_sem,seval,cQ u0];refine bJ h (fun c12 h=>?_) (fun c12 h=>?_)
 ·refine aM ?_;simp only [go_sem,seval,cQ u0,c12];refine aQ ?_
  try simp only [aU]
  cases h;refine ⟨by simp,?_⟩;simp only [go_sem,seval,aO,aJ,bF u0]
 ·refine aV ?_
  refine aF ?_;obtain ⟨x13,h17,h⟩:=aA h;obtain ⟨f14,f15,f16⟩:=aX h17;have f18:x10.1[0]? = some x13:=f16;refine aN fun _ z=>?_;simp only [go_sem,seval,c12,f14,f15,f18];apply z;refine aF (aM ?_);simp only [go_sem,seval,cQ u0];refine bN (aM ?_);simp only [go_sem,seval];refine bJ h (fun c19 h=>?_) (fun c19 h=>?_)
  ·refine aF ?_;obtain ⟨x20,h22,h⟩:=aA h;obtain ⟨x21,h23,h⟩:=aA h;refine dR [(2,0),(3,0),(4,0),(0,0),(1,1),(5,0),(6,0)] 54 fun _ z=>?_;simp only [go_sem,seval,c19];refine cB (zS a0 x10.2 ({ a3 with lE:=a2.cP,aP:=x10.1 }:aG) _ h22 _ _ _ P0 F0 fp0 S0 C0 (by simp only [go_sem,seval,cQ u0,t0])) rfl ?_;simp only [go_sem,seval];refine cB (dD a0 x10.2 ({ a3 with lE:=a2.cP,aP:=x10.1 }:aG) x20 _ h23 _ _ _ P0 F0 fp0 S0 C0 (by simp only [go_sem,seval,cQ u0,t0])) rfl ?_;simp only [go_sem,seval,cQ u0];apply z;refine aQ ?_
   try simp only [aU,bK]
   cases h;refine ⟨by simp,?_⟩;simp only [go_sem,seval,aO,aJ,bF u0]
  ·refine aM ?_;simp only [go_sem,seval,c19];refine bJ h (fun c24 h=>?_) (fun c24 h=>?_)
   ·refine aF ?_;obtain ⟨x25,h27,h⟩:=aA h;obtain ⟨x26,h28,h⟩:=aA h;refine dR [(1,0),(2,0),(0,0),(3,0),(4,1),(5,0)] 55 fun _ z=>?_;simp only [go_sem,seval,c24];refine cB (pP x13.cU _ h27 _ _ _ (by simp only [go_sem])) rfl ?_;simp only [go_sem,seval,cQ u0];refine cB (aT a0 x10.2 x25 132 a2.fQ _ h28 _ _ _ P0 F0 fp0 S0 C0 (by simp only [go_sem,seval,cQ u0,t0])) rfl ?_;simp only [go_sem];apply z;refine aF ?_;obtain ⟨x29,h30,h⟩:=aA h;refine aN fun _ z=>?_;simp only [go_sem,seval,cQ u0];refine SC.by_ (dD a0 x26 ({ a3 with lE:=a2.cP,aP:=x10.1 }:aG) 3 _ h30 _ _ _ P0 F0 fp0 S0 C0 (by simp only [go_sem,seval,t0])) ?_;simp only [go_sem,seval,cQ u0];apply z;refine aQ ?_
    try simp only [aU,bK]
    cases h;refine ⟨by simp,?_⟩;simp only [go_sem,seval,aO,aJ,bF u0]
   ·refine aM ?_;simp only [go_sem,seval,c24];refine bJ h (fun c31 h=>?_) (fun c31 h=>?_)
    ·refine aF ?_;obtain ⟨y32,hy32,h⟩:=aA h;refine gN 65 (fun E' m'=>E' 0=.ptr P0 0/\E' 5=.ptr (1::q) 0/\E' 6=.ptr (2::q) 0/\m'.blk P0=some (nU F0 fp0 S0 C0 a0 y32)/\m'.blk (1::q)=some ((aG.C ({ a3 with lE:=a2.cP,aP:=x10.1 }:aG)))/\m'.blk (2::q)=some ([.lit (.string (bs [])),.lit (.int .i64 0),.lit (.int .u32 0),.lit (.int .i64 0),.list .self ([].map aG.C),.lit (.int .i64 0)])/\m'.gl=m.gl/\m'.hp=m.hp/\m.back q m'=(m.set P0 (nU F0 fp0 S0 C0 a0 y32))) ?_ ?_
     ·obtain ⟨x33,h34,hy32⟩:=aA hy32
      rcases dH hy32 with ⟨c35,hy32⟩ | ⟨c35,hy32⟩
      ·obtain ⟨x36,h42,hy32⟩:=aA hy32;obtain ⟨f39,f40,f41⟩:=aX h42;have f43:x10.1[1]? = some x36:=f41;obtain ⟨x37,h44,hy32⟩:=aA hy32;obtain ⟨x38,h45,hy32⟩:=aA hy32;refine dR [(1,0),(2,0),(3,0),(4,0),(5,0),(6,0),(7,0),(8,0),(9,0),(0,0),(10,0),(11,0),(12,2),(13,0)] 65 fun _ z=>?_;simp only [go_sem,seval,c31];refine cB (pP x13.cU _ h34 _ _ _ (by simp only [go_sem])) rfl ?_;simp only [go_sem,seval,c35,f39,f40,f43];refine cB (pP x36.cU _ h44 _ _ _ (by simp only [go_sem])) rfl ?_;simp only [go_sem,seval,cQ u0];refine cB (aT a0 x10.2 x37 132 a2.fQ _ h45 _ _ _ P0 F0 fp0 S0 C0 (by simp only [go_sem,seval,cQ u0,t0])) rfl ?_;simp only [go_sem];apply z;simp only [aL];cases hy32;refine ⟨by decide,?_⟩;simp only [go_sem,seval,aO,aJ,bF u0,cQ u0]
      ·obtain ⟨x46,h47,hy32⟩:=aA hy32;refine dR [(1,0),(2,0),(3,0),(4,0),(5,0),(6,0),(7,0),(8,0),(9,0),(0,0),(10,0),(11,0),(12,2),(13,0)] 65 fun _ z=>?_;simp only [go_sem,seval,c31];refine cB (pP x13.cU _ h34 _ _ _ (by simp only [go_sem])) rfl ?_;simp only [go_sem,seval,cQ u0,c35];refine cB (aT a0 x10.2 false 132 a2.fQ _ h47 _ _ _ P0 F0 fp0 S0 C0 (by simp only [go_sem,seval,cQ u0,t0])) rfl ?_;simp only [go_sem];apply z;simp only [aL];cases hy32;refine ⟨by decide,?_⟩;simp only [go_sem,seval,aO,aJ,bF u0,cQ u0]
     ·intro E48 m49 e50 _;refine aF ?_;obtain ⟨x51,h52,h⟩:=aA h;refine aN fun _ z=>?_;simp only [go_sem,seval,e50];refine SC.by_ (dD a0 y32 ({ a3 with lE:=a2.cP,aP:=x10.1 }:aG) 3 _ h52 _ _ _ P0 F0 fp0 S0 C0 (by simp only [go_sem,t0,e50])) ?_;simp only [go_sem,seval,cQ u0,e50];apply z;refine aQ ?_
      try simp only [aU,bK]
      cases h;refine ⟨by simp,?_⟩;simp only [go_sem,seval,aO,bF u0,e50]
    ·refine aV ?_
     try simp only [aL,aS]
     refine aF ?_;obtain ⟨x53,h54,h⟩:=aA h;refine aN fun _ z=>?_;simp only [go_sem,seval,cQ u0,c31];refine SC.by_ (aT a0 x10.2 (x13.cU == 3) 132 a2.fQ _ h54 _ _ _ P0 F0 fp0 S0 C0 (by simp only [go_sem,seval,cQ u0,t0])) ?_;simp only [go_sem,seval];apply z;refine aF ?_;obtain ⟨x55,h56,h⟩:=aA h;refine aN fun _ z=>?_;simp only [go_sem,seval,cQ u0];refine SC.by_ (dD a0 x53 ({ a3 with lE:=a2.cP,aP:=x10.1 }:aG) 2 _ h56 _ _ _ P0 F0 fp0 S0 C0 (by simp only [go_sem,seval,t0])) ?_;simp only [go_sem,seval,cQ u0];apply z;refine aQ ?_;cases h;refine ⟨by simp,?_⟩;simp only [go_sem,seval,aO,aJ,bF u0]
theorem AI {dL} (pM:lX dL) (n:Nat):nE (nD dL n):=by
 rintro a0 a1 a2 r h q m vs P0 F0 fp0 S0 C0 ⟨hv,w0,t0,hg0⟩;refine SC.wv hv ?_;refine SC.ap w0 fun u0 l0=>?_
 try simp only [go_sem] at w0 l0
 refine dZ func222 call222 ntmps222 results222 ?_;unfold nD at h;refine aM ?_;simp only [go_sem];refine aM ?_;simp only [go_sem,seval];refine aF (aM ?_);simp only [go_sem,seval];refine bN ?_;obtain ⟨y5,hy5,h⟩:=aA h;refine zA 5 ([].map aG.C) rfl (by simp only [go_sem,seval]) ?_;refine kN (fun c E' m'=>∃v2 v3 v4 o_v2 j_v2,jU dL a2 a0 c v2 v3 v4=some y5/\E' 0=.ptr P0 0/\E' 5=.list (.st (.anon o_v2 j_v2)) (v2.map aG.C)/\m'.tok o_v2 j_v2=true/\q <:+ o_v2/\E' 8=.list .none (a2.map aB.C)/\E' 9=.lit (.int .i64 (a2.length:Int))/\E' 10=.lit (.int .i64 v3)/\m'.blk P0=some (nU F0 fp0 S0 C0 a0 v4)/\m'.gl=m.gl/\m'.hp=m.hp/\m.back q m'=(m.set P0 (nU F0 fp0 S0 C0 a0 v4))) n ⟨[],0,a1,(5::q),0,hy5,?_⟩ ?_
 ·simp only [go_sem,seval,cH,aJ,l0,w0]
 rintro i1 c6 E7 m8 ⟨v2,v3,v4,o_v2,j_v2,hy5,e9⟩ _
 rcases c6 with _ | c6
 ·cases hy5
 rw [jU] at hy5;refine aM ?_;simp only [go_sem,seval,e9];refine aF (bJ hy5 (fun c10 hy5=>?_) (fun c10 hy5=>?_))
 ·refine aV ?_
  refine aF (bN (aF ?_));obtain ⟨x11,h16,hy5⟩:=aA hy5;obtain ⟨f13,f14,f15⟩:=aX h16;refine aN fun _ z=>?_;simp only [go_sem,seval,f13,f14,f15,e9];apply z;obtain ⟨x17,h18,hy5⟩:=aA hy5;obtain ⟨f19,hy5⟩:=bS hy5;have f20:v2.length+1<=1073741824:=by first | omega | (simp only [nL,jK,lD] at f19 ⊢;omega)
  have f21:v2.length<=1073741823:=by first | omega | (simp only [nL,jK,lD] at f19 ⊢;omega)
  refine fB fun _ z=>?_;simp only [go_sem,seval,e9];refine SC.by_ (pM a0 v4 x11 _ h18 _ _ _ P0 F0 fp0 S0 C0 (by simp only [go_sem,seval,fC u0,t0,e9,hg0])) ?_;simp only [go_sem,seval,f20,e9];apply z;simp only [aL,aS];refine aN fun _ z=>?_;simp only [go_sem,seval,e9];apply z;refine ⟨c6,xH _,(v2++[x17.1]),(i64.wrap (v3+1)),x17.2,(10::i1::6::q),0,hy5,?_⟩;simp only [go_sem,seval,aO,cH,bF u0,e9]
 ·refine dQ ?_
  try simp only [bZ,bR,↓reduceIte,aL]
  cases hy5;refine aM ?_;simp only [go_sem,seval,c10,e9];refine aQ ?_;cases h;refine ⟨by simp,?_⟩;simp only [go_sem,seval,e9]
theorem rX:∀n,lX (gT n)/\rD (Do n)/\qL (CQ n)/\qC (Ce n)/\pL (Bn n)/\nE (Ed n)
 | 0=>⟨fun _ _ _ _ h=>fL h,fun _ _ _ _ _ h=>fL h,fun _ _ _ _ _ h=>fL h,fun _ _ _ _ _ h=>fL h,fun _ _ _ _ _ h=>fL h,fun _ _ _ _ h=>fL h⟩
 | n+1=>
   have ih:=rX n
   ⟨zQ ih.2.1 ih.2.2.1 ih.2.2.2.1 ih.2.2.2.2.1 n,zP ih.1 n,yM ih.2.2.2.2.2 n,xN ih.2.2.2.2.2 n,wY ih.2.2.2.2.2 n,AI ih.1 n⟩
theorem jF (n:Nat):lX (gT n):=(rX n).1
def Az (f:aD->aI->aB->Option (aG × aI)):Prop:=∀a0 a1 a2 r,f a0 a1 a2=some r->∀(q:Pa) (m:M) (vs:List V) (P0:Pa) (F0 fp0 S0 C0:V),vs.map V.weak1=[.ptr P0 0,.agg ((aB.C a2))]/\m.blk P0=some (nU F0 fp0 S0 C0 a0 a1)/\eJ F0 fp0 S0 C0 m.hp a0/\m.gl 0=.eptr [(cA bM.C cZ)] 0 0->SC prog 140 vs q m (fun v m'=>v=.agg ((aG.C r.1))/\m'=(m.set P0 (nU F0 fp0 S0 C0 a0 r.2)))
theorem iF (n:Nat):Az (fG n):=by
 rintro a0 a1 a2 r h q m vs P0 F0 fp0 S0 C0 ⟨hv,w0,t0,hg0⟩;refine SC.wv hv ?_;refine SC.ap w0 fun u0 l0=>?_
 try simp only [go_sem] at w0 l0
 refine dZ func140 call140 ntmps140 results140 ?_;unfold fG at h;refine aM ?_;simp only [go_sem,seval];refine aF ?_;obtain ⟨x3,h5,h⟩:=aA h;refine aN fun _ z=>?_;simp only [go_sem,seval];refine SC.by_ (jF n a0 a1 a2 _ h5 _ _ _ P0 F0 fp0 S0 C0 (by simp only [go_sem,seval,cQ u0,t0,w0,hg0])) ?_;simp only [go_sem,seval];apply z;refine aF ?_;obtain ⟨x6,h7,h⟩:=aA h;refine aN fun _ z=>?_;simp only [go_sem,seval,cQ u0];refine SC.by_ (aT a0 x3.2 (x3.1.cU == 1) 133 a2.fQ _ h7 _ _ _ P0 F0 fp0 S0 C0 (by simp only [go_sem,seval,cQ u0,t0])) ?_;simp only [go_sem,seval];apply z;refine aM ?_;simp only [go_sem,seval,cQ u0];refine aQ ?_;cases h;refine ⟨by simp,?_⟩;simp only [go_sem,seval,aO,aJ,bF u0]
def yO (f:aD->aI->aB->Option (Int × aI)):Prop:=∀a0 a1 a2 r,f a0 a1 a2=some r->∀(q:Pa) (m:M) (vs:List V) (P0:Pa) (F0 fp0 S0 C0:V),vs.map V.weak1=[.ptr P0 0,.agg ((aB.C a2))]/\m.blk P0=some (nU F0 fp0 S0 C0 a0 a1)/\eJ F0 fp0 S0 C0 m.hp a0->SC prog 186 vs q m (fun v m'=>v=.lit (.int .i64 r.1)/\m'=(m.set P0 (nU F0 fp0 S0 C0 a0 r.2)))
theorem xM (n:Nat):yO (kJ n):=by
 rintro a0 a1 a2 r h q m vs P0 F0 fp0 S0 C0 ⟨hv,w0,t0⟩;refine SC.wv hv ?_;refine SC.ap w0 fun u0 l0=>?_
 try simp only [go_sem] at w0 l0
 refine dZ func186 call186 ntmps186 results186 ?_;unfold kJ at h;refine aM ?_;simp only [go_sem,seval];refine aF ?_;have s3:=(eJ.funcsR t0);obtain ⟨x2,h4,h⟩:=aA h;refine dR (o0 [0,1,2,3,4,5,6,7,8,9,10,11]) 14 fun _ z=>?_;simp only [go_sem,seval,cQ u0,s3.shr,w0];refine cB (vE n a0.p_ a2.cP _ h4 _ _ _ F0 fp0 S0 C0 a0 (by simp only [go_sem,t0,s3.shr])) rfl ?_;simp only [go_sem,seval];apply z;refine aF ?_;obtain ⟨x5,h6,h⟩:=aA h;refine aN fun _ z=>?_;simp only [go_sem,seval];refine SC.by_ (aT a0 a1 x2.2 130 a2.fQ _ h6 _ _ _ P0 F0 fp0 S0 C0 (by simp only [go_sem,seval,cQ u0,t0,w0])) ?_;simp only [go_sem,seval];apply z;refine aM ?_;simp only [go_sem,seval];refine aQ ?_;cases h;refine ⟨by simp,?_⟩;simp only [go_sem,seval,aO,aJ,bF u0]
def Ay (f:aD->aI->Int->Option (List aZ)):Prop:=∀a0 a1 a2 r,f a0 a1 a2=some r->∀(q:Pa) (m:M) (vs:List V) (P0:Pa) (F0 fp0 S0 C0:V),vs.map V.weak1=[.ptr P0 0,.lit (.int .i64 a2)]/\m.blk P0=some (nU F0 fp0 S0 C0 a0 a1)/\eJ F0 fp0 S0 C0 m.hp a0->SC prog 187 vs q m (fun v m'=>∃lv,v=lv/\gF m.hp lv 3 (r.map aZ.C)/\m'=m)
theorem zL:Ay (lT):=by
 rintro a0 a1 a2 r h q m vs P0 F0 fp0 S0 C0 ⟨hv,w0,t0⟩;refine SC.wv hv ?_;refine SC.apart w0 fun u0=>?_
 try simp only [go_sem] at w0
 refine dZ func187 call187 ntmps187 results187 ?_;unfold lT at h;refine aM ?_;simp only [go_sem];refine aF ?_;have s5:=(eJ.funcsR t0);obtain ⟨x1,h9,h⟩:=aA h;obtain ⟨f6,f7,f8⟩:=aX h9;obtain ⟨vv_k2,bv_k2,HF_k2,k2⟩:=eJ.foc t0 f8;obtain ⟨rs_k2,s10,s11,s12,s13,s14,s15,s16⟩:=k2.rows;have s17:=(gF.shC k2.vars);obtain ⟨⟨f3',f4'⟩,h⟩:=bS h;have f3:0<=x1.bD:=f3';have f4:x1.bD<=(x1.bB.length:Int):=f4';have s18:sQ (wS vv_k2 (x1.bD.toNat)) 3 (x1.bB.take (x1.bD.toNat)).length:=sQ.cutL (gF.shC k2.vars) f4;refine dR (o0 [0,1,2,3,4,5,6,7,8,9,10,11,12,13,14,15,16,17,18,19]) 21 fun _ z=>?_;simp only [go_sem,seval,s5.ld,sQ.ix (P:=prog) (k:=.i64) (eJ.funcsR t0) JL f6 f7,s13,s14,k2.hF,sQ.slHi (P:=prog) (k:=.i64) (gF.shC k2.vars) GB f3 f4,w0];apply z;refine aQ ?_;cases h;refine ⟨by simp,?_⟩;simp only [go_sem,seval,aJ];refine ⟨(wS vv_k2 (x1.bD.toNat)),sQ.wk (sQ.cutL (gF.shC k2.vars) f4),?_⟩;have hR:=(gF.cutC k2.vars f4);simpa only [go_sem,seval] using hR
def Ji (f:Int->Int->Option Bool):Prop:=∀a0 a1 r,f a0 a1=some r->∀(q:Pa) (m:M) (vs:List V),vs.map V.weak1=[.lit (.int .i64 a0),.lit (.int .i64 a1)]->SC prog 183 vs q m (fun v m'=>v=.lit (.bool r)/\m'=m)
theorem wE:Ji (sH):=by
 intro a0 a1 r h q m vs hv;refine SC.wv hv (dZ func183 call183 ntmps183 results183 ?_);unfold sH at h;refine aM ?_;simp only [go_sem];refine aF ?_;obtain ⟨y1,hy1,h⟩:=aA h;refine gN 13 (fun E' m'=>E' 4=.lit (.bool y1)/\m'.gl=m.gl/\m.back q m'=m) ?_ ?_
 ·rcases dH hy1 with ⟨c2,hy1⟩ | ⟨c2,hy1⟩
  ·refine aN fun _ z=>?_;simp only [go_sem,seval,c2];apply z;cases hy1;refine ⟨by decide,?_⟩;simp only [go_sem,seval,aJ]
  ·
   rcases dH hy1 with ⟨c3,hy1⟩ | ⟨c3,hy1⟩
   ·refine aN fun _ z=>?_;simp only [go_sem,seval,c2,c3];apply z;cases hy1;refine ⟨by decide,?_⟩;simp only [go_sem,seval,aJ]
   ·refine aN fun _ z=>?_;simp only [go_sem,seval,c2,c3];apply z;cases hy1;refine ⟨by decide,?_⟩;simp only [go_sem,seval,aJ]
 ·intro E4 m5 e6 _;refine aQ ?_;cases h;refine ⟨by simp,?_⟩;simp only [go_sem,e6]
def Bq (f:aD->aI->aB->Int->Option (aG × aI)):Prop:=∀a0 a1 a2 a3 r,f a0 a1 a2 a3=some r->∀(q:Pa) (m:M) (vs:List V) (P0:Pa) (F0 fp0 S0 C0:V),vs.map V.weak1=[.ptr P0 0,.agg ((aB.C a2)),.lit (.int .i64 a3)]/\m.blk P0=some (nU F0 fp0 S0 C0 a0 a1)/\eJ F0 fp0 S0 C0 m.hp a0->SC prog 208 vs q m (fun v m'=>v=.agg ((aG.C r.1))/\m'=(m.set P0 (nU F0 fp0 S0 C0 a0 r.2)))
theorem AH (n:Nat):Bq (nC n):=by
 rintro a0 a1 a2 a3 r h q m vs P0 F0 fp0 S0 C0 ⟨hv,w0,t0⟩;refine SC.wv hv ?_;refine SC.ap w0 fun u0 l0=>?_
 try simp only [go_sem] at w0 l0
 refine dZ func208 call208 ntmps208 results208 ?_;unfold nC at h;refine aM ?_;simp only [go_sem,seval];refine aF ?_;obtain ⟨x3,h4,h⟩:=aA h;refine aN fun _ z=>?_;simp only [go_sem,seval];refine SC.by_ (aT a0 a1 (a2.cF == 15) 132 a2.fQ _ h4 _ _ _ P0 F0 fp0 S0 C0 (by simp only [go_sem,seval,cQ u0,t0,w0])) ?_;simp only [go_sem,seval];apply z;refine aF ?_;obtain ⟨x5,h6,h⟩:=aA h;refine aN fun _ z=>?_;simp only [go_sem,seval,cQ u0];refine SC.by_ (kV n a0 x3 a2 _ h6 _ _ _ P0 F0 fp0 S0 C0 (by simp only [go_sem,seval,t0])) ?_;simp only [go_sem,seval];apply z;refine aF ?_;obtain ⟨y7,hy7,h⟩:=aA h;refine gN 37 (fun E' m'=>E' 4=.ptr (0::q) 0/\E' 6=.ptr (1::q) 0/\E' 7=.lit (.int .i64 x5.1)/\m'.blk P0=some (nU F0 fp0 S0 C0 a0 y7)/\m'.blk (0::q)=some ((aB.C a2))/\m'.blk (1::q)=some ([.lit (.string (bs [])),.lit (.int .i64 0),.lit (.int .u32 0),.lit (.int .i64 0),.list .self ([].map aG.C),.lit (.int .i64 0)])/\m'.gl=m.gl/\m'.hp=m.hp/\m.back q m'=(m.set P0 (nU F0 fp0 S0 C0 a0 y7))) ?_ ?_
 ·obtain ⟨x8,h9,hy7⟩:=aA hy7
  rcases dH hy7 with ⟨c10,hy7⟩ | ⟨c10,hy7⟩
  ·obtain ⟨x11,h19,hy7⟩:=aA hy7;obtain ⟨f16,f17,f18⟩:=aX h19;obtain ⟨vv_k12,bv_k12,HF_k12,k12⟩:=eJ.foc t0 f18;obtain ⟨rs_k12,s20,s21,s22,s23,s24,s25,s26⟩:=k12.rows;have s27:=(eJ.funcsR t0);have s13:=eJ.fpEq t0 f16;have s28:eJ F0 (.pp (oP F0) (a0.f_.toNat*6)) S0 C0 m.hp a0:=by rw [←s13];exact t0
   have s29:=(gF.shC k12.vars);obtain ⟨x14,h33,hy7⟩:=aA hy7;obtain ⟨f30,f31,f32⟩:=aX h33;obtain ⟨H38,rs_H38,s34,s35,s36,s37⟩:=gF.readVar k12.vars f32;obtain ⟨x15,h39,hy7⟩:=aA hy7;refine dR [(1,0),(2,0),(3,0),(0,0),(4,0),(5,0),(6,0),(7,0),(8,0),(9,0),(10,0),(11,0),(12,0),(13,0),(14,0),(15,0),(16,0),(17,0),(18,0),(19,0),(20,0),(21,0),(22,1),(23,0)] 37 fun _ z=>?_;simp only [go_sem,seval,s13];refine cB (gL a0 x5.2 x5.1 _ h9 _ _ _ P0 F0 fp0 S0 C0 (by simp only [go_sem,seval,s13,s28])) rfl ?_;simp only [go_sem,seval,cQ u0,c10,s24,k12.hF,sQ.ix (P:=prog) (k:=.i64) (gF.shC k12.vars) GB f30 f31,s34,s37];refine cB (aT a0 x5.2 (x14.iV == a3) 132 a2.fQ _ h39 _ _ _ P0 F0 fp0 S0 C0 (by simp only [go_sem,seval,s13,s28])) rfl ?_;simp only [go_sem,s13];apply z;simp only [aL];cases hy7;refine ⟨by decide,?_⟩;simp only [go_sem,seval,aO,aJ,bF u0,cQ u0,s13]
  ·obtain ⟨x40,h41,hy7⟩:=aA hy7;refine dR [(1,0),(2,0),(3,0),(0,0),(4,0),(5,0),(6,0),(7,0),(8,0),(9,0),(10,0),(11,0),(12,0),(13,0),(14,0),(15,0),(16,0),(17,0),(18,0),(19,0),(20,0),(21,0),(22,1),(23,0)] 37 fun _ z=>?_;simp only [go_sem,seval];refine cB (gL a0 x5.2 x5.1 _ h9 _ _ _ P0 F0 fp0 S0 C0 (by simp only [go_sem,seval,t0])) rfl ?_;simp only [go_sem,seval,cQ u0,c10];refine cB (aT a0 x5.2 false 132 a2.fQ _ h41 _ _ _ P0 F0 fp0 S0 C0 (by simp only [go_sem,seval,t0])) rfl ?_;simp only [go_sem];apply z;simp only [aL];cases hy7;refine ⟨by decide,?_⟩;simp only [go_sem,seval,aO,aJ,bF u0,cQ u0]
 ·intro E42 m43 e44 _;refine aM ?_;simp only [go_sem,seval,e44];refine aQ ?_;cases h;refine ⟨by simp,?_⟩;simp only [go_sem,seval,aO,cM,e44]
def yQ (f:aD->aI->aB->aZ->Option (aG × aI)):Prop:=∀a0 a1 a2 a3 r,f a0 a1 a2 a3=some r->∀(q:Pa) (m:M) (vs:List V) (P0:Pa) (F0 fp0 S0 C0:V),vs.map V.weak1=[.ptr P0 0,.agg ((aB.C a2)),.agg ((aZ.C a3))]/\m.blk P0=some (nU F0 fp0 S0 C0 a0 a1)/\eJ F0 fp0 S0 C0 m.hp a0/\m.gl 0=.eptr [(cA bM.C cZ)] 0 0->SC prog 188 vs q m (fun v m'=>v=.agg ((aG.C r.1))/\m'=(m.set P0 (nU F0 fp0 S0 C0 a0 r.2)))
theorem xO (n:Nat):yQ (kL n):=by
 rintro a0 a1 a2 a3 r h q m vs P0 F0 fp0 S0 C0 ⟨hv,w0,t0,hg0⟩;refine SC.wv hv ?_;refine SC.ap w0 fun u0 l0=>?_
 try simp only [go_sem] at w0 l0
 refine dZ func188 call188 ntmps188 results188 ?_;unfold kL at h;refine aM ?_;simp only [go_sem,seval];refine aF (aM ?_);simp only [go_sem,seval];refine bJ h (fun c4 h=>?_) (fun c4 h=>?_)
 ·refine aF ?_;obtain ⟨x5,h6,h⟩:=aA h;refine aN fun _ z=>?_;simp only [go_sem,seval,c4];refine SC.by_ (AH n a0 a1 a2 a3.iV _ h6 _ _ _ P0 F0 fp0 S0 C0 (by simp only [go_sem,seval,cQ u0,t0,w0])) ?_;simp only [go_sem,seval,cQ u0];apply z;refine aQ ?_
  try simp only [aU]
  cases h;refine ⟨by simp,?_⟩;simp only [go_sem,seval,aO,aJ,bF u0]
 ·refine aV ?_
  refine aF (aM ?_);simp only [go_sem,seval,c4];refine bJ h (fun c7 h=>?_) (fun c7 h=>?_)
  ·refine aF ?_;obtain ⟨x8,h9,h⟩:=aA h;refine aN fun _ z=>?_;simp only [go_sem,seval,c7];refine SC.by_ (iF n a0 a1 a2 _ h9 _ _ _ P0 F0 fp0 S0 C0 (by simp only [go_sem,seval,cQ u0,t0,w0,hg0])) ?_;simp only [go_sem,seval,cQ u0];apply z;refine aQ ?_
   try simp only [aU]
   cases h;refine ⟨by simp,?_⟩;simp only [go_sem,seval,aO,aJ,bF u0]
  ·refine aV ?_
   refine aF ?_;obtain ⟨x10,h12,h⟩:=aA h;refine aN fun _ z=>?_;simp only [go_sem,seval,c7];refine SC.by_ (jF n a0 a1 a2 _ h12 _ _ _ P0 F0 fp0 S0 C0 (by simp only [go_sem,seval,cQ u0,t0,w0,hg0])) ?_;simp only [go_sem,seval];apply z;refine aF ?_;obtain ⟨x13,h15,h⟩:=aA h;obtain ⟨x14,h16,h⟩:=aA h;refine dR [(1,0),(2,0),(3,0),(4,0),(5,0),(0,0),(6,0),(7,1),(8,0)] 23 fun _ z=>?_;simp only [go_sem,seval,cQ u0];refine cB (wE x10.1.cU a3.cF _ h15 _ _ _ (by simp only [go_sem])) rfl ?_;simp only [go_sem,seval,cQ u0];refine cB (aT a0 x10.2 x13 132 a2.fQ _ h16 _ _ _ P0 F0 fp0 S0 C0 (by simp only [go_sem,seval,cQ u0,t0])) rfl ?_;simp only [go_sem];apply z;refine aM ?_;simp only [go_sem,seval,cQ u0];refine aQ ?_;cases h;refine ⟨by simp,?_⟩;simp only [go_sem,seval,aO,aJ,bF u0]
def Cc (f:aD->aI->aB->aH->Int->Option (aH × aD × aI)):Prop:=∀a0 a1 a2 a3 a4 r,f a0 a1 a2 a3 a4=some r->∀(q:Pa) (m:M) (vs:List V) (P0:Pa) (F0 fp0 S0 C0:V),vs.map V.weak1=[.ptr P0 0,.agg ((aB.C a2)),.agg ([.lit (.string (bs a3.lE)),.lit (.int .i64 a3.mD),.lit (.int .i64 a3.pE),.nilv,.list .none (a3.eH.map aH.C),.list .none (a3.rZ.map aH.C),.lit (.int .i64 a3.fQ)]),.lit (.int .i64 a4)]/\m.blk P0=some (nU F0 fp0 S0 C0 a0 a1)/\eJ F0 fp0 S0 C0 m.hp a0/\m.gl 0=.eptr [(cA bM.C cZ)] 0 0->SC prog 144 vs q m (fun v m'=>∃(h:Hp) (vr:Nat->Nat),v=.agg ((aH.C r.1))/\m'=m.ck P0 (nU F0 fp0 S0 C0 r.2.1 r.2.2) h vr/\eJ F0 fp0 S0 C0 h r.2.1)
theorem oI (n:Nat):Cc (iD n):=by
 rintro a0 a1 a2 a3 a4 r h q m vs P0 F0 fp0 S0 C0 ⟨hv,w0,t0,hg0⟩;refine SC.wv hv ?_;refine SC.ap w0 fun u0 l0=>?_
 try simp only [go_sem] at w0 l0
 refine dZ func144 call144 ntmps144 results144 ?_;unfold iD at h;refine aM ?_;simp only [go_sem,seval];refine aF ?_;obtain ⟨x4,h5,h⟩:=aA h;refine aN fun _ z=>?_;simp only [go_sem,seval];refine SC.by_ (xM n a0 a1 a2 _ h5 _ _ _ P0 F0 fp0 S0 C0 (by simp only [go_sem,seval,fC u0,t0,w0])) ?_;simp only [go_sem,seval,fC u0];apply z;refine aF (aM ?_);simp only [go_sem,seval,fC u0];refine bJ h (fun c6 h=>?_) (fun c6 h=>?_)
 ·refine aM ?_;simp only [go_sem,seval,fC u0,c6];refine aQ ?_
  try simp only [aU]
  cases h;refine ⟨by simp,?_⟩;simp only [go_sem,seval];refine ⟨_,_,Fr.to (q:=q) (p:=P0) ?_ u0 (by simp only [go_sem,seval,fC u0]),?_⟩
  ·simp only [go_sem]
  ·simp only [go_sem,t0]
 ·refine aV ?_
  refine aF ?_;have s11:=(eJ.callsS t0);obtain ⟨x7,h15,h⟩:=aA h;obtain ⟨f12,f13,f14⟩:=aX h15;obtain ⟨cv_k8,HC_k8,k8⟩:=eJ.focC t0 f14;obtain ⟨rs_k8,s16⟩:=k8.row;have s17:=(gF.shC k8.cell);obtain ⟨f18,h⟩:=bS h;refine uK fun f19=>?_;have f9:m.hp (39::q)=none:=by have:=f19 39 (by omega);simpa only [go_sem,seval,t0,c6] using this
  have k10:eJ F0 fp0 S0 C0 (rR (ED m.hp cv_k8 (39::q) ((x7.map (cI .i64)).flatten++[.lit (.int .i64 x4.1)])) (oP C0) (HC_k8.set a0.gC.toNat (.vec (39::q) 1 (x7.length+1)))) ({ a0 with cJ:=(a0.cJ.set a0.gC.toNat (x7++[x4.1])) }:aD):=Ju.app k8 f9 x4.1 rfl rfl rfl rfl;refine dR [(8,0),(9,0),(10,0),(11,0),(12,0),(13,0),(14,0),(15,0),(16,0),(17,0),(18,0),(19,0),(20,0),(21,0),(0,0),(1,0),(2,0),(3,1),(4,0),(5,0),(6,0),(7,1),(22,0),(23,0)] 42 fun _ z=>?_;simp only [go_sem,seval,fC u0,c6,s11.ld,sQ.ix (P:=prog) (k:=.i64) (eJ.callsS t0) sz84 f12 f13,s16,k8.hC];refine Ez (sz:=1) (rows:=(x7.map (cI .i64))) (by (try simp only [go_sem]);have hR:=k8.cell;exact hR) PM zc3 by3 (by decide) (by decide) rfl (by simp only [go_sem]) (by simp only [go_sem,seval]) (by first | omega | (simp only [uQ,jK,lD];omega)) ?_;simp only [go_sem,seval,FY,List.flatten_nil,rG,fC u0,s11.ld,sQ.ix (P:=prog) (k:=.i64) (eJ.callsS t0) sz84 f12 f13,Ju.apF k8 f9,k8.len];apply z;refine aF ?_;obtain ⟨x20,h21,h⟩:=aA h;refine aN fun _ z=>?_;simp only [go_sem,seval];refine SC.mono (zL ({ a0 with cJ:=(a0.cJ.set a0.gC.toNat (x7++[x4.1])) }:aD) x4.2 x4.1 _ h21 _ _ _ P0 F0 fp0 S0 C0 (by simp only [go_sem,seval,fC u0,k10])) ?_;rintro v_x20 _ ⟨lv_x20,hl_x20,rl_x20,rfl⟩;rw [hl_x20]
  try simp only [go_sem] at rl_x20
  have rs_x20:=gF.shC rl_x20;simp only [go_sem,seval];apply z;refine aF ?_;obtain ⟨x22,h23,h⟩:=aA h;refine aN fun _ z=>?_;simp only [go_sem,seval,fC u0,rs_x20.slen];refine SC.by_ (aT ({ a0 with cJ:=(a0.cJ.set a0.gC.toNat (x7++[x4.1])) }:aD) x4.2 ((a2.aP.length:Int) == (x20.length:Int)) 136 a2.fQ _ h23 _ _ _ P0 F0 fp0 S0 C0 (by simp only [go_sem,seval,fC u0,k10])) ?_;simp only [go_sem,seval];apply z;refine aF (aM ?_);simp only [go_sem,seval,fC u0];refine bN ?_;obtain ⟨y28,hy28,h⟩:=aA h;refine kN (fun c E' m'=>∃v25 v26 v27,jG n a2 x20 a0 x7 x4 c v25 v26 v27=some y28/\E' 0=.ptr P0 0/\E' 6=.ptr (1::q) 0/\E' 8=.ptr (2::q) 0/\E' 9=lv_x20/\E' 63=.list .none (a2.aP.map aB.C)/\E' 64=.lit (.int .i64 (a2.aP.length:Int))/\E' 65=.lit (.int .i64 v25)/\m'.blk P0=some (nU F0 fp0 S0 C0 ({ a0 with cJ:=(a0.cJ.set a0.gC.toNat (x7++[x4.1])) }:aD) v26)/\eJ F0 fp0 S0 C0 m'.hp ({ a0 with cJ:=(a0.cJ.set a0.gC.toNat (x7++[x4.1])) }:aD)/\m'.blk (1::q)=some ([.lit (.string (bs v27.lE)),.lit (.int .i64 v27.mD),.lit (.int .i64 v27.pE),.list .self (v27.aP.map aG.C),.list .none (v27.eH.map aH.C),.list .none (v27.rZ.map aH.C),.lit (.int .i64 v27.fQ)])/\m'.blk (2::q)=some ([.lit (.string (bs [])),.lit (.int .i64 0),.lit (.int .i64 0),.list .self ([].map aG.C),.list .self ([].map aH.C),.list .self ([].map aH.C),.lit (.int .i64 0)])/\m'.gl=m.gl/\Fr q P0 m m'/\m'.hp=(rR (ED m.hp cv_k8 (39::q) ((x7.map (cI .i64)).flatten++[.lit (.int .i64 x4.1)])) (oP C0) (HC_k8.set a0.gC.toNat (.vec (39::q) 1 (x7.length+1))))) n ⟨0,x22,({ a3 with lE:=([99,97,108,108]:cR),mD:=a4,pE:=x4.1,aP:=[] }:aH),hy28,?_⟩ ?_
  ·simp only [go_sem,seval,fC u0,k10]
  rintro i24 c29 E30 m31 ⟨v25,v26,v27,hy28,e32⟩ _
  rcases c29 with _ | c29
  ·cases hy28
  rw [jG] at hy28;refine aM ?_;simp only [go_sem,e32];refine aF (bJ hy28 (fun c33 hy28=>?_) (fun c33 hy28=>?_))
  ·refine aV ?_
   refine aF (bN (aF ?_));obtain ⟨x34,h39,hy28⟩:=aA hy28;obtain ⟨f36,f37,f38⟩:=aX h39;refine aN fun _ z=>?_;simp only [go_sem,seval,f36,f37,f38,e32];apply z;refine aF (aM ?_);simp only [go_sem,seval,fC u0,e32];refine bJ hy28 (fun c40 hy28=>?_) (fun c40 hy28=>?_)
   ·refine dQ ?_
    try simp only [seval,bZ,bR,aL]
    cases hy28;refine aM ?_;simp only [go_sem,seval,c40,e32];refine aQ ?_;cases h;refine ⟨by simp,?_⟩;simp only [go_sem,seval,e32];refine ⟨_,_,Fr.to (q:=q) (p:=P0) ?_ u0 (by simp only [go_sem,seval,fC u0,e32]),?_⟩
    ·simp only [go_sem,e32]
    ·simp only [go_sem,k10,e32]
   ·refine aV ?_
    try simp only [aL]
    obtain ⟨x41,h46,hy28⟩:=aA hy28;obtain ⟨f43,f44,f45⟩:=aX h46;obtain ⟨H51,rs_H51,s47,s48,s49,s50⟩:=gF.readVar rl_x20 f45;obtain ⟨x42,h52,hy28⟩:=aA hy28;obtain ⟨f53,hy28⟩:=bS hy28;have f54:v27.aP.length+1<=1073741824:=by first | omega | (simp only [nL,jK,lD] at f53 ⊢;omega)
    have f55:v27.aP.length<=1073741823:=by first | omega | (simp only [nL,jK,lD] at f53 ⊢;omega)
    refine dR [(2,0),(3,0),(4,0),(5,0),(6,0),(7,0),(8,0),(0,0),(1,1),(9,0),(10,0),(11,0),(12,0)] 25 fun _ z=>?_;simp only [go_sem,seval,c40,sQ.ix (P:=prog) (k:=.i64) (gF.shC rl_x20) GB f43 f44,s47,s48,e32];refine cB (xO n ({ a0 with cJ:=(a0.cJ.set a0.gC.toNat (x7++[x4.1])) }:aD) v26 x34 x41 _ h52 _ _ _ P0 F0 fp0 S0 C0 (by simp only [go_sem,seval,fC u0,k10,e32,hg0])) rfl ?_;simp only [go_sem,seval,fC u0,f54,e32];apply z;simp only [aL,aS];refine aN fun _ z=>?_;simp only [go_sem,seval,e32];apply z;refine ⟨c29,xH _,(i64.wrap (v25+1)),x42.2,({ v27 with aP:=(v27.aP++[x42.1]) }:aH),hy28,?_⟩;simp only [go_sem,seval,DS u0,fC u0,k10,e32]
  ·refine dQ ?_
   try simp only [bZ,bR,↓reduceIte,aL]
   cases hy28;refine aM ?_;simp only [go_sem,seval,c33,e32];refine aQ ?_;cases h;refine ⟨by simp,?_⟩;simp only [go_sem,seval,e32];refine ⟨_,_,Fr.to (q:=q) (p:=P0) ?_ u0 (by simp only [go_sem,seval,fC u0,e32]),?_⟩
   ·simp only [go_sem,e32]
   ·simp only [go_sem,k10,e32]
def AF (f:aD->aI->aB->Option Bool):Prop:=∀a0 a1 a2 r,f a0 a1 a2=some r->∀(q:Pa) (m:M) (vs:List V) (P0:Pa) (F0 fp0 S0 C0:V),vs.map V.weak1=[.ptr P0 0,.agg ((aB.C a2))]/\m.blk P0=some (nU F0 fp0 S0 C0 a0 a1)/\eJ F0 fp0 S0 C0 m.hp a0/\m.gl 0=.eptr [(cA bM.C cZ)] 0 0->SC prog 179 vs q m (fun v m'=>v=.lit (.bool r)/\m'=m)
theorem pK (n:Nat):AF (iK n):=by
 rintro a0 a1 a2 r h q m vs P0 F0 fp0 S0 C0 ⟨hv,w0,t0,hg0⟩;refine SC.wv hv ?_;refine SC.apart w0 fun u0=>?_
 try simp only [go_sem] at w0
 refine dZ func179 call179 ntmps179 results179 ?_;unfold iK at h;refine aM ?_;simp only [go_sem,seval];refine aF ?_;obtain ⟨y2,hy2,h⟩:=aA h;refine gN 12 (fun E' m'=>E' 4=.lit (.bool y2)/\m'.blk P0=some (nU F0 fp0 S0 C0 a0 a1)/\m'.gl=m.gl/\m'.hp=m.hp/\m.back q m'=m) ?_ ?_
 ·rcases dH hy2 with ⟨c3,hy2⟩ | ⟨c3,hy2⟩
  ·obtain ⟨x4,h5,hy2⟩:=aA hy2;refine aN fun _ z=>?_;simp only [go_sem,seval,c3];refine SC.by_ (AO n a2.cP _ h5 _ _ _ (by simp only [go_sem,hg0])) ?_;simp only [go_sem,seval];apply z;cases hy2;refine ⟨by decide,?_⟩;simp only [go_sem,seval,aO,aJ,cQ u0,w0]
  ·refine aN fun _ z=>?_;simp only [go_sem,seval,c3];apply z;cases hy2;refine ⟨by decide,?_⟩;simp only [go_sem,seval,aO,aJ,cQ u0,w0]
 ·intro E6 m7 e8 _;refine aQ ?_;cases h;refine ⟨by simp,?_⟩;simp only [go_sem,e8]
def Bj (f:aD->aI->aB->aH->Option (aH × aD × aI)):Prop:=∀a0 a1 a2 a3 r,f a0 a1 a2 a3=some r->∀(q:Pa) (m:M) (vs:List V) (P0:Pa) (F0 fp0 S0 C0:V),vs.map V.weak1=[.ptr P0 0,.agg ((aB.C a2)),.agg ([.lit (.string (bs a3.lE)),.lit (.int .i64 a3.mD),.lit (.int .i64 a3.pE),.nilv,.list .none (a3.eH.map aH.C),.list .none (a3.rZ.map aH.C),.lit (.int .i64 a3.fQ)])]/\m.blk P0=some (nU F0 fp0 S0 C0 a0 a1)/\eJ F0 fp0 S0 C0 m.hp a0/\m.gl 0=.eptr [(cA bM.C cZ)] 0 0->SC prog 141 vs q m (fun v m'=>∃(S:V) (h:Hp) (vr:Nat->Nat),v=.agg ((aH.C r.1))/\m'=m.ck P0 (nU F0 fp0 S C0 r.2.1 r.2.2) h vr/\eJ F0 fp0 S C0 h r.2.1)
theorem AD (n:Nat):Bj (nB n):=by
 rintro a0 a1 a2 a3 r h q m vs P0 F0 fp0 S0 C0 ⟨hv,w0,t0,hg0⟩;refine SC.wv hv ?_;refine SC.ap w0 fun u0 l0=>?_
 try simp only [go_sem] at w0 l0
 refine dZ func141 call141 ntmps141 results141 ?_;unfold nB at h;refine aM ?_;simp only [go_sem,seval];refine tL (id:=(1::q)) (off:=3) (cs:=[.lit (.string (bs a3.lE)),.lit (.int .i64 a3.mD),.lit (.int .i64 a3.pE),.list .self ([].map aG.C),.list .none (a3.eH.map aH.C),.list .none (a3.rZ.map aH.C),.lit (.int .i64 a3.fQ)]) (by simp only [go_sem,seval]) rfl ?_;refine aF (aF ?_);obtain ⟨x4,h9,h⟩:=aA h;obtain ⟨f6,f7,f8⟩:=aX h9;have f10:a2.aP[0]? = some x4:=f8;obtain ⟨x5,h11,h⟩:=aA h;refine aN fun _ z=>?_;simp only [go_sem,seval,f6,f7,f10];refine SC.by_ (pK n a0 a1 x4 _ h11 _ _ _ P0 F0 fp0 S0 C0 (by simp only [go_sem,seval,cQ u0,t0,w0,hg0])) ?_;simp only [go_sem,seval];apply z;refine bJ h (fun c12 h=>?_) (fun c12 h=>?_)
 ·refine aF ?_;obtain ⟨x13,h14,h⟩:=aA h;refine BA [0,0,2,6,14,0,63,127] 6 [] rfl (by kernel_rfl) fun _ z=>?_;rw [show List.range 6=[0,1,2,3,4,5] from rfl];simp only [go_sem,seval,f6,f7,f10,c12];refine SC.mono (oI n a0 a1 x4 ({ a3 with aP:=[] }:aH) (-1:Int) _ h14 _ _ _ P0 F0 fp0 S0 C0 (by simp only [go_sem,seval,cQ u0,t0,w0,hg0])) ?_;rintro _ _ ⟨h_x13,vr_x13,rfl,rfl,hk_x13⟩;simp only [go_sem,seval,cQ u0];apply z;refine aM ?_;simp only [go_sem,seval,cQ u0];refine aF (aM ?_);simp only [go_sem,seval,cQ u0];refine bJ h (fun c15 h=>?_) (fun c15 h=>?_)
  ·refine aM ?_;simp only [go_sem,seval,cQ u0,c15];refine aQ ?_
   try simp only [aU]
   cases h;refine ⟨by simp,?_⟩;simp only [go_sem,seval,cQ u0];refine ⟨S0,_,_,Fr.to (q:=q) (p:=P0) ?_ u0 (by simp only [go_sem,seval,cQ u0]),?_⟩
   ·simp only [go_sem]
   ·simp only [go_sem,hk_x13]
  ·refine aV ?_
   refine aF ?_;have s18:=(eJ.funcsR hk_x13);obtain ⟨x16,h22,h⟩:=aA h;obtain ⟨f19,f20,f21⟩:=aX h22;obtain ⟨vv_k17,bv_k17,HF_k17,k17⟩:=eJ.foc hk_x13 f21;obtain ⟨rs_k17,s23,s24,s25,s26,s27,s28,s29⟩:=k17.rows;refine dR (o0 [0,1,2,3,4,5,6,7,8,9,10]) 37 fun _ z=>?_;simp only [go_sem,seval,cQ u0,c15,s18.ld,sQ.ix (P:=prog) (k:=.i64) (eJ.funcsR hk_x13) JL f19 f20,s25,k17.hF];apply z;refine aF ?_;obtain ⟨x30,h31,h⟩:=aA h;refine aN fun _ z=>?_;simp only [go_sem,seval,cQ u0];refine SC.by_ (aT x13.2.1 x13.2.2 (x16.cX != 0) 132 a2.fQ _ h31 _ _ _ P0 F0 fp0 S0 C0 (by simp only [go_sem,seval,cQ u0,hk_x13])) ?_;simp only [go_sem,seval];apply z;refine aF ?_;obtain ⟨x32,h33,h⟩:=aA h;refine aN fun _ z=>?_;simp only [go_sem,seval,cQ u0];refine SC.mono (gI n x13.2.1 x30 (aZ.mk a2.cP x16.cX 0) a2.fQ _ h33 _ _ _ P0 F0 fp0 S0 C0 (by simp only [go_sem,seval,hk_x13])) ?_;rintro _ _ ⟨S_x32,h_x32,vr_x32,rfl,rfl,hk_x32⟩;simp only [go_sem,seval,cQ u0];apply z;refine aM ?_;simp only [go_sem,seval,cQ u0];refine aQ ?_
   try simp only [aU]
   cases h;refine ⟨by simp,?_⟩;simp only [go_sem,seval,cQ u0];refine ⟨S_x32,_,_,Fr.to (q:=q) (p:=P0) ?_ u0 (by simp only [go_sem,seval,cQ u0]),?_⟩
   ·simp only [go_sem]
   ·simp only [go_sem,hk_x32]
 ·refine aV ?_
  refine aF ?_;obtain ⟨x34,h36,h⟩:=aA h;refine aN fun _ z=>?_;simp only [go_sem,seval,f6,f7,f10,c12];refine SC.by_ (jF n a0 a1 x4 _ h36 _ _ _ P0 F0 fp0 S0 C0 (by simp only [go_sem,seval,cQ u0,t0,w0,hg0])) ?_;simp only [go_sem,seval];apply z;refine aF (dR [(2,0),(3,0),(0,1),(1,0),(4,0),(5,0)] 23 fun _ z=>?_);simp only [go_sem,seval,cQ u0];apply z;refine aF ?_;obtain ⟨x37,h39,h⟩:=aA h;obtain ⟨x38,h40,h⟩:=aA h;refine BA [0,0,2,0,8,24,62,0,128,511,1023,2047] 9 [] rfl (by kernel_rfl) fun _ z=>?_;rw [show List.range 9=[0,1,2,3,4,5,6,7,8] from rfl];simp only [go_sem,seval,cQ u0];refine PC (Cx x34.1.cU _ h39 _ _ _ (by simp only [go_sem])) ?_;simp only [go_sem,seval,cQ u0];refine SC.mono (gI n a0 x34.2 (aZ.mk a2.cP x37 0) a2.fQ _ h40 _ _ _ P0 F0 fp0 S0 C0 (by simp only [go_sem,seval,cQ u0,t0])) ?_;rintro _ _ ⟨S_x38,h_x38,vr_x38,rfl,rfl,hk_x38⟩;simp only [go_sem,seval,cQ u0];apply z;refine aM ?_;simp only [go_sem,seval,cQ u0];refine aQ ?_;cases h;refine ⟨by simp,?_⟩;simp only [go_sem,seval,cQ u0];refine ⟨S_x38,_,_,Fr.to (q:=q) (p:=P0) ?_ u0 (by simp only [go_sem,seval,cQ u0]),?_⟩
  ·simp only [go_sem]
  ·simp only [go_sem,hk_x38]
def zN (f:aD->aI->aB->Option (Int × aI)):Prop:=∀a0 a1 a2 r,f a0 a1 a2=some r->∀(q:Pa) (m:M) (vs:List V) (P0:Pa) (F0 fp0 S0 C0:V),vs.map V.weak1=[.ptr P0 0,.agg ((aB.C a2))]/\m.blk P0=some (nU F0 fp0 S0 C0 a0 a1)/\eJ F0 fp0 S0 C0 m.hp a0->SC prog 181 vs q m (fun v m'=>v=.lit (.int .i64 r.1)/\m'=(m.set P0 (nU F0 fp0 S0 C0 a0 r.2)))
theorem yN (n:Nat):zN (kW n):=by
 rintro a0 a1 a2 r h q m vs P0 F0 fp0 S0 C0 ⟨hv,w0,t0⟩;refine SC.wv hv ?_;refine SC.ap w0 fun u0 l0=>?_
 try simp only [go_sem] at w0 l0
 refine dZ func181 call181 ntmps181 results181 ?_;unfold kW at h;refine aM ?_;simp only [go_sem,seval];refine aF ?_;obtain ⟨x2,h3,h⟩:=aA h;refine aN fun _ z=>?_;simp only [go_sem,seval];refine SC.by_ (kV n a0 a1 a2 _ h3 _ _ _ P0 F0 fp0 S0 C0 (by simp only [go_sem,seval,cQ u0,t0,w0])) ?_;simp only [go_sem,seval];apply z;refine aF ?_;obtain ⟨x4,h5,h⟩:=aA h;refine aN fun _ z=>?_;simp only [go_sem,seval];refine SC.by_ (gL a0 x2.2 x2.1 _ h5 _ _ _ P0 F0 fp0 S0 C0 (by simp only [go_sem,seval,t0])) ?_;simp only [go_sem,seval];apply z;refine aF ?_;obtain ⟨y6,hy6,h⟩:=aA h;refine gN 20 (fun E' m'=>E' 5=.lit (.int .i64 x2.1)/\m'.blk P0=some (nU F0 fp0 S0 C0 a0 y6)/\m'.gl=m.gl/\m'.hp=m.hp/\m.back q m'=(m.set P0 (nU F0 fp0 S0 C0 a0 y6))) ?_ ?_
 ·rcases dH hy6 with ⟨c7,hy6⟩ | ⟨c7,hy6⟩
  ·obtain ⟨x8,h9,hy6⟩:=aA hy6;refine aN fun _ z=>?_;simp only [go_sem,seval,cQ u0,c7];refine SC.by_ (aT a0 x2.2 true 132 a2.fQ _ h9 _ _ _ P0 F0 fp0 S0 C0 (by simp only [go_sem,seval,t0])) ?_;simp only [go_sem,seval];apply z;cases hy6;refine ⟨by decide,?_⟩;simp only [go_sem,seval,aO,aJ,bF u0]
  ·obtain ⟨x10,h11,hy6⟩:=aA hy6;refine aN fun _ z=>?_;simp only [go_sem,seval,cQ u0,c7];refine SC.by_ (aT a0 x2.2 (x4 == 3) 132 a2.fQ _ h11 _ _ _ P0 F0 fp0 S0 C0 (by simp only [go_sem,seval,t0])) ?_;simp only [go_sem,seval];apply z;cases hy6;refine ⟨by decide,?_⟩;simp only [go_sem,seval,aO,aJ,bF u0]
 ·intro E12 m13 e14 _;refine aM ?_;simp only [go_sem,seval,e14];refine aQ ?_;cases h;refine ⟨by simp,?_⟩;simp only [go_sem,seval,e14]
def CS (f:aD->aI->aB->aH->Option (aH × aD × aI)):Prop:=∀a0 a1 a2 a3 r,f a0 a1 a2 a3=some r->∀(q:Pa) (m:M) (vs:List V) (P0:Pa) (F0 fp0 S0 C0:V),vs.map V.weak1=[.ptr P0 0,.agg ((aB.C a2)),.agg ([.lit (.string (bs a3.lE)),.lit (.int .i64 a3.mD),.lit (.int .i64 a3.pE),.nilv,.list .none (a3.eH.map aH.C),.list .none (a3.rZ.map aH.C),.lit (.int .i64 a3.fQ)])]/\m.blk P0=some (nU F0 fp0 S0 C0 a0 a1)/\eJ F0 fp0 S0 C0 m.hp a0/\m.gl 0=.eptr [(cA bM.C cZ)] 0 0->SC prog 142 vs q m (fun v m'=>∃(h:Hp) (vr:Nat->Nat),v=.agg ((aH.C r.1))/\m'=m.ck P0 (nU F0 fp0 S0 C0 r.2.1 r.2.2) h vr/\eJ F0 fp0 S0 C0 h r.2.1)
theorem BU (n:Nat):CS (oN n):=by
 rintro a0 a1 a2 a3 r h q m vs P0 F0 fp0 S0 C0 ⟨hv,w0,t0,hg0⟩;refine SC.wv hv ?_;refine SC.ap w0 fun u0 l0=>?_
 try simp only [go_sem] at w0 l0
 refine dZ func142 call142 ntmps142 results142 ?_;unfold oN at h;refine aM ?_;simp only [go_sem,seval];refine tL (id:=(1::q)) (off:=3) (cs:=[.lit (.string (bs a3.lE)),.lit (.int .i64 a3.mD),.lit (.int .i64 a3.pE),.list .self ([].map aG.C),.list .none (a3.eH.map aH.C),.list .none (a3.rZ.map aH.C),.lit (.int .i64 a3.fQ)]) (by simp only [go_sem,seval]) rfl ?_;refine aF ?_;obtain ⟨x4,h5,h⟩:=aA h;refine aN fun _ z=>?_;simp only [go_sem,seval];refine SC.by_ (yN n a0 a1 a2 _ h5 _ _ _ P0 F0 fp0 S0 C0 (by simp only [go_sem,seval,cQ u0,t0,w0])) ?_;simp only [go_sem,seval];apply z;refine aF (aF ?_);obtain ⟨x6,h11,h⟩:=aA h;obtain ⟨f8,f9,f10⟩:=aX h11;have f12:a2.aP[0]? = some x6:=f10;obtain ⟨x7,h13,h⟩:=aA h;refine aN fun _ z=>?_;simp only [go_sem,seval,cQ u0,f8,f9,f12];refine SC.by_ (pK n a0 x4.2 x6 _ h13 _ _ _ P0 F0 fp0 S0 C0 (by simp only [go_sem,seval,t0,hg0])) ?_;simp only [go_sem,seval];apply z;refine bJ h (fun c14 h=>?_) (fun c14 h=>?_)
 ·refine aF ?_;obtain ⟨x15,h16,h⟩:=aA h;refine BA [0,0,2,6,14,0,0,127,255] 7 [] rfl (by kernel_rfl) fun _ z=>?_;rw [show List.range 7=[0,1,2,3,4,5,6] from rfl];simp only [go_sem,seval,cQ u0,f8,f9,f12,c14];refine SC.mono (oI n a0 x4.2 x6 ({ a3 with aP:=[] }:aH) x4.1 _ h16 _ _ _ P0 F0 fp0 S0 C0 (by simp only [go_sem,seval,t0,hg0])) ?_;rintro _ _ ⟨h_x15,vr_x15,rfl,rfl,hk_x15⟩;simp only [go_sem,seval,cQ u0];apply z;refine aM ?_;simp only [go_sem,seval,cQ u0];refine aF (aM ?_);simp only [go_sem,seval,cQ u0];refine bJ h (fun c17 h=>?_) (fun c17 h=>?_)
  ·obtain ⟨x18,h22,h⟩:=aA h;have s23:=(eJ.funcsR hk_x15);obtain ⟨x19,h27,h⟩:=aA h;obtain ⟨f24,f25,f26⟩:=aX h27;obtain ⟨vv_k20,bv_k20,HF_k20,k20⟩:=eJ.foc hk_x15 f26;obtain ⟨rs_k20,s28,s29,s30,s31,s32,s33,s34⟩:=k20.rows;obtain ⟨x21,h35,h⟩:=aA h;refine dR [(11,0),(12,0),(13,0),(0,0),(1,0),(2,0),(3,0),(4,0),(5,1),(6,0),(7,1),(8,0),(9,0),(10,1),(14,0),(15,0),(16,1),(17,0)] 49 fun _ z=>?_;simp only [go_sem,seval,c17];refine cB (gL x15.2.1 x15.2.2 x4.1 _ h22 _ _ _ P0 F0 fp0 S0 C0 (by simp only [go_sem,seval,cQ u0,hk_x15])) rfl ?_;simp only [go_sem,seval,cQ u0,s23.ld,sQ.ix (P:=prog) (k:=.i64) (eJ.funcsR hk_x15) JL f24 f25,s30,k20.hF];refine cB (aT x15.2.1 x15.2.2 (x19.cX == x18) 132 a2.fQ _ h35 _ _ _ P0 F0 fp0 S0 C0 (by simp only [go_sem,seval,cQ u0,hk_x15])) rfl ?_;simp only [go_sem];apply z;refine aM ?_;simp only [go_sem,seval,cQ u0];refine aQ ?_
   try simp only [aU]
   cases h;refine ⟨by simp,?_⟩;simp only [go_sem,seval,cQ u0];refine ⟨_,_,Fr.to (q:=q) (p:=P0) ?_ u0 (by simp only [go_sem,seval,cQ u0]),?_⟩
   ·simp only [go_sem]
   ·simp only [go_sem,hk_x15]
  ·refine aV ?_
   refine aM ?_;simp only [go_sem,seval,cQ u0,c17];refine aQ ?_
   try simp only [aU]
   cases h;refine ⟨by simp,?_⟩;simp only [go_sem,seval,cQ u0];refine ⟨_,_,Fr.to (q:=q) (p:=P0) ?_ u0 (by simp only [go_sem,seval,cQ u0]),?_⟩
   ·simp only [go_sem]
   ·simp only [go_sem,hk_x15]
 ·refine aV ?_
  refine aF ?_;obtain ⟨x36,h38,h⟩:=aA h;refine aN fun _ z=>?_;simp only [go_sem,seval,cQ u0,f8,f9,f12,c14];refine SC.by_ (jF n a0 x4.2 x6 _ h38 _ _ _ P0 F0 fp0 S0 C0 (by simp only [go_sem,seval,t0,hg0])) ?_;simp only [go_sem,seval];apply z;refine aF (dR [(3,0),(4,0),(0,0),(5,0),(6,0),(1,2),(2,0),(7,0),(8,0)] 30 fun _ z=>?_);simp only [go_sem,seval,cQ u0];apply z;refine aF ?_;obtain ⟨x39,h42,h⟩:=aA h;obtain ⟨x40,h43,h⟩:=aA h;obtain ⟨x41,h44,h⟩:=aA h;refine dR [(3,0),(4,0),(5,0),(1,0),(2,1),(6,0),(0,0),(7,0),(8,2),(9,0)] 40 fun _ z=>?_;simp only [go_sem,seval];refine cB (gL a0 x36.2 x4.1 _ h42 _ _ _ P0 F0 fp0 S0 C0 (by simp only [go_sem,seval,cQ u0,t0])) rfl ?_;simp only [go_sem,seval];refine cB (wE x36.1.cU x39 _ h43 _ _ _ (by simp only [go_sem])) rfl ?_;simp only [go_sem,seval,cQ u0];refine cB (aT a0 x36.2 x40 132 a2.fQ _ h44 _ _ _ P0 F0 fp0 S0 C0 (by simp only [go_sem,seval,cQ u0,t0])) rfl ?_;simp only [go_sem];apply z;refine aM ?_;simp only [go_sem,seval,cQ u0];refine aQ ?_;cases h;refine ⟨by simp,?_⟩;simp only [go_sem,seval];refine ⟨_,_,Fr.to (q:=q) (p:=P0) ?_ u0 (by simp only [go_sem,seval,cQ u0]),?_⟩
  ·simp only [go_sem]
  ·simp only [go_sem,t0]
def Bh (f:aD->aI->aB->Int->Option (aG × aI)):Prop:=∀a0 a1 a2 a3 r,f a0 a1 a2 a3=some r->∀(q:Pa) (m:M) (vs:List V) (P0:Pa) (F0 fp0 S0 C0:V),vs.map V.weak1=[.ptr P0 0,.agg ((aB.C a2)),.lit (.int .i64 a3)]/\m.blk P0=some (nU F0 fp0 S0 C0 a0 a1)/\eJ F0 fp0 S0 C0 m.hp a0/\m.gl 0=.eptr [(cA bM.C cZ)] 0 0->SC prog 185 vs q m (fun v m'=>v=.agg ((aG.C r.1))/\m'=(m.set P0 (nU F0 fp0 S0 C0 a0 r.2)))
theorem AC (n:Nat):Bh (nA n):=by
 rintro a0 a1 a2 a3 r h q m vs P0 F0 fp0 S0 C0 ⟨hv,w0,t0,hg0⟩;refine SC.wv hv ?_;refine SC.ap w0 fun u0 l0=>?_
 try simp only [go_sem] at w0 l0
 refine dZ func185 call185 ntmps185 results185 ?_;unfold nA at h;refine aM ?_;simp only [go_sem,seval];refine aF ?_;obtain ⟨x3,h5,h⟩:=aA h;refine aN fun _ z=>?_;simp only [go_sem,seval];refine SC.by_ (iF n a0 a1 a2 _ h5 _ _ _ P0 F0 fp0 S0 C0 (by simp only [go_sem,seval,cQ u0,t0,w0,hg0])) ?_;simp only [go_sem,seval];apply z;refine aF (aF ?_);obtain ⟨y6,hy6,h⟩:=aA h;refine gN 17 (fun E' m'=>E' 0=.ptr P0 0/\E' 2=.lit (.int .i64 a3)/\E' 4=.ptr (0::q) 0/\E' 6=.ptr (1::q) 0/\E' 7=.ptr (5::q) 0/\E' 20=.lit (.bool y6)/\m'.blk P0=some (nU F0 fp0 S0 C0 a0 x3.2)/\m'.blk (0::q)=some ((aB.C a2))/\m'.blk (1::q)=some ([.lit (.string (bs [])),.lit (.int .i64 0),.lit (.int .u32 0),.lit (.int .i64 0),.list .self ([].map aG.C),.lit (.int .i64 0)])/\m'.blk (5::q)=some ((aG.C x3.1))/\m'.gl=m.gl/\m'.hp=m.hp/\m.back q m'=(m.set P0 (nU F0 fp0 S0 C0 a0 x3.2))) ?_ ?_
 ·rcases dH hy6 with ⟨c7,hy6⟩ | ⟨c7,hy6⟩
  ·refine aN fun _ z=>?_;simp only [go_sem,seval,cQ u0,c7];apply z;cases hy6;refine ⟨by decide,?_⟩;simp only [go_sem,seval,aO,aJ,bF u0,cQ u0]
  ·refine aN fun _ z=>?_;simp only [go_sem,seval,cQ u0,c7];apply z;cases hy6;refine ⟨by decide,?_⟩;simp only [go_sem,seval,aO,aJ,bF u0,cQ u0]
 ·intro E8 m9 e10 _;refine bJ h (fun c11 h=>?_) (fun c11 h=>?_)
  ·obtain ⟨x12,h20,h⟩:=aA h;obtain ⟨f17,f18,f19⟩:=aX h20;obtain ⟨vv_k13,bv_k13,HF_k13,k13⟩:=eJ.foc t0 f19;obtain ⟨rs_k13,s21,s22,s23,s24,s25,s26,s27⟩:=k13.rows;have s28:=(eJ.funcsR t0);have s14:=eJ.fpEq t0 f17;have s29:eJ F0 (.pp (oP F0) (a0.f_.toNat*6)) S0 C0 m.hp a0:=by rw [←s14];exact t0
   have s30:=(gF.shC k13.vars);obtain ⟨x15,h34,h⟩:=aA h;obtain ⟨f31,f32,f33⟩:=aX h34;obtain ⟨H39,rs_H39,s35,s36,s37,s38⟩:=gF.readVar k13.vars f33;obtain ⟨x16,h40,h⟩:=aA h;refine dR (o0 [0,1,2,3,4,5,6,7,8,9,10,11,12,13,14,15,16,17,18]) 36 fun _ z=>?_;simp only [go_sem,seval,s25,k13.hF,s14,sQ.ix (P:=prog) (k:=.i64) (gF.shC k13.vars) GB f31 f32,s35,s38,e10];refine cB (aT a0 x3.2 (decide ((i64.wrap x3.1.N_)<x15.iV)) 137 a2.fQ _ h40 _ _ _ P0 F0 fp0 S0 C0 (by simp only [go_sem,s14,s29,e10])) rfl ?_;simp only [go_sem,s14];apply z;refine aM ?_;simp only [go_sem,seval,cQ u0,e10];refine aQ ?_;cases h;refine ⟨by simp,?_⟩;simp only [go_sem,seval,aO,bF u0,s14,e10]
  ·refine aV ?_
   refine aM ?_;simp only [go_sem,seval,e10];refine aQ ?_;cases h;refine ⟨by simp,?_⟩;simp only [go_sem,seval,aO,e10]
def CT (f:aD->aI->aB->aH->Option (aH × aI)):Prop:=∀a0 a1 a2 a3 r,f a0 a1 a2 a3=some r->∀(q:Pa) (m:M) (vs:List V) (P0:Pa) (F0 fp0 S0 C0:V),vs.map V.weak1=[.ptr P0 0,.agg ((aB.C a2)),.agg ([.lit (.string (bs a3.lE)),.lit (.int .i64 a3.mD),.lit (.int .i64 a3.pE),.nilv,.list .none (a3.eH.map aH.C),.list .none (a3.rZ.map aH.C),.lit (.int .i64 a3.fQ)])]/\m.blk P0=some (nU F0 fp0 S0 C0 a0 a1)/\eJ F0 fp0 S0 C0 m.hp a0/\m.gl 0=.eptr [(cA bM.C cZ)] 0 0->SC prog 143 vs q m (fun v m'=>v=.agg ((aH.C r.1))/\m'=(m.set P0 (nU F0 fp0 S0 C0 a0 r.2)))
theorem BV (n:Nat):CT (oO n):=by
 rintro a0 a1 a2 a3 r h q m vs P0 F0 fp0 S0 C0 ⟨hv,w0,t0,hg0⟩;refine SC.wv hv ?_;refine SC.ap w0 fun u0 l0=>?_
 try simp only [go_sem] at w0 l0
 refine dZ func143 call143 ntmps143 results143 ?_;unfold oO at h;refine aM ?_;simp only [go_sem,seval];refine tL (id:=(1::q)) (off:=3) (cs:=[.lit (.string (bs a3.lE)),.lit (.int .i64 a3.mD),.lit (.int .i64 a3.pE),.list .self ([].map aG.C),.list .none (a3.eH.map aH.C),.list .none (a3.rZ.map aH.C),.lit (.int .i64 a3.fQ)]) (by simp only [go_sem,seval]) rfl ?_;refine aF ?_;obtain ⟨x4,h5,h⟩:=aA h;refine aN fun _ z=>?_;simp only [go_sem,seval];refine SC.by_ (kV n a0 a1 a2 _ h5 _ _ _ P0 F0 fp0 S0 C0 (by simp only [go_sem,seval,cQ u0,t0,w0])) ?_;simp only [go_sem,seval];apply z;refine aF ?_;obtain ⟨x6,h8,h⟩:=aA h;obtain ⟨x7,h9,h⟩:=aA h;refine dR [(1,0),(2,0),(3,0),(0,0),(4,0),(5,0),(6,1),(7,0)] 15 fun _ z=>?_;simp only [go_sem,seval];refine cB (gL a0 x4.2 x4.1 _ h8 _ _ _ P0 F0 fp0 S0 C0 (by simp only [go_sem,seval,t0])) rfl ?_;simp only [go_sem,seval,cQ u0];refine cB (aT a0 x4.2 (x6 == 4) 132 a2.fQ _ h9 _ _ _ P0 F0 fp0 S0 C0 (by simp only [go_sem,seval,t0])) rfl ?_;simp only [go_sem];apply z;refine aF ?_;obtain ⟨x10,h16,h⟩:=aA h;obtain ⟨f13,f14,f15⟩:=aX h16;have f17:a2.aP[0]? = some x10:=f15;obtain ⟨x11,h18,h⟩:=aA h;refine aN fun _ z=>?_;simp only [go_sem,seval,cQ u0,f13,f14,f17];refine SC.by_ (AC n a0 x7 x10 x4.1 _ h18 _ _ _ P0 F0 fp0 S0 C0 (by simp only [go_sem,seval,t0,hg0])) ?_;simp only [go_sem,seval];apply z;refine aF ?_;obtain ⟨x19,h25,h⟩:=aA h;obtain ⟨f22,f23,f24⟩:=aX h25;have f26:a2.aP[1]? = some x19:=f24;obtain ⟨x20,h27,h⟩:=aA h;refine aN fun _ z=>?_;simp only [go_sem,seval,cQ u0,f22,f23,f26];refine SC.by_ (jF n a0 x11.2 x19 _ h27 _ _ _ P0 F0 fp0 S0 C0 (by simp only [go_sem,seval,cQ u0,t0,hg0])) ?_;simp only [go_sem,seval];apply z;refine aF (dR [(4,0),(5,0),(0,0),(6,0),(7,0),(1,2),(2,2),(3,0),(8,0),(9,0)] 42 fun _ z=>?_);simp only [go_sem,seval,cQ u0];apply z;refine aF ?_;obtain ⟨x28,h30,h⟩:=aA h;obtain ⟨x29,h31,h⟩:=aA h;refine dR [(1,0),(2,0),(3,0),(0,0),(4,0),(5,1),(6,0)] 49 fun _ z=>?_;simp only [go_sem,seval];refine cB (wE x20.1.cU 2 _ h30 _ _ _ (by simp only [go_sem])) rfl ?_;simp only [go_sem,seval,cQ u0];refine cB (aT a0 x20.2 x28 132 a2.fQ _ h31 _ _ _ P0 F0 fp0 S0 C0 (by simp only [go_sem,seval,cQ u0,t0])) rfl ?_;simp only [go_sem];apply z;refine aM ?_;simp only [go_sem,seval,cQ u0];refine aQ ?_;cases h;refine ⟨by simp,?_⟩;simp only [go_sem,seval,aO,cM,aJ,bF u0]
def Cf (f:aD->aI->aB->aH->Bool->Option (aH × aD × aI)):Prop:=∀a0 a1 a2 a3 a4 r,f a0 a1 a2 a3 a4=some r->∀(q:Pa) (m:M) (vs:List V) (P0:Pa) (F0 fp0 S0 C0:V),vs.map V.weak1=[.ptr P0 0,.agg ((aB.C a2)),.agg ([.lit (.string (bs a3.lE)),.lit (.int .i64 a3.mD),.lit (.int .i64 a3.pE),.nilv,.list .none (a3.eH.map aH.C),.list .none (a3.rZ.map aH.C),.lit (.int .i64 a3.fQ)]),.lit (.bool a4)]/\m.blk P0=some (nU F0 fp0 S0 C0 a0 a1)/\eJ F0 fp0 S0 C0 m.hp a0/\m.gl 0=.eptr [(cA bM.C cZ)] 0 0->SC prog 146 vs q m (fun v m'=>∃(h:Hp) (vr:Nat->Nat),v=.agg ((aH.C r.1))/\m'=m.ck P0 (nU F0 fp0 S0 C0 r.2.1 r.2.2) h vr/\eJ F0 fp0 S0 C0 h r.2.1)
theorem Bp (n:Nat):Cf (oB n):=by
 rintro a0 a1 a2 a3 a4 r h q m vs P0 F0 fp0 S0 C0 ⟨hv,w0,t0,hg0⟩;refine SC.wv hv ?_;refine SC.ap w0 fun u0 l0=>?_
 try simp only [go_sem] at w0 l0
 refine dZ func146 call146 ntmps146 results146 ?_;unfold oB at h;refine aM ?_;simp only [go_sem,seval];refine tL (id:=(1::q)) (off:=3) (cs:=[.lit (.string (bs a3.lE)),.lit (.int .i64 a3.mD),.lit (.int .i64 a3.pE),.list .self ([].map aG.C),.list .none (a3.eH.map aH.C),.list .none (a3.rZ.map aH.C),.lit (.int .i64 a3.fQ)]) (by simp only [go_sem,seval]) rfl ?_;refine aF ?_;obtain ⟨y4,hy4,h⟩:=aA h;refine gN 18 (fun E' m'=>E' 0=.ptr P0 0/\E' 5=.ptr (0::q) 0/\E' 6=.ptr (1::q) 0/\E' 8=.ptr (2::q) 0/\m'.blk P0=some (nU F0 fp0 S0 C0 a0 y4)/\eJ F0 fp0 S0 C0 m'.hp a0/\m'.blk (0::q)=some ((aB.C a2))/\m'.blk (1::q)=some ([.lit (.string (bs a3.lE)),.lit (.int .i64 a3.mD),.lit (.int .i64 a3.pE),.nilv,.list .none (a3.eH.map aH.C),.list .none (a3.rZ.map aH.C),.lit (.int .i64 a3.fQ)])/\m'.blk (2::q)=some ([.lit (.string (bs [])),.lit (.int .i64 0),.lit (.int .i64 0),.list .self ([].map aG.C),.list .self ([].map aH.C),.list .self ([].map aH.C),.lit (.int .i64 0)])/\m'.gl=m.gl/\Fr q P0 m m'/\m'.hp=m.hp) ?_ ?_
 ·rcases dH hy4 with ⟨c5,hy4⟩ | ⟨c5,hy4⟩
  ·obtain ⟨x6,h13,hy4⟩:=aA hy4;obtain ⟨f10,f11,f12⟩:=aX h13;obtain ⟨vv_k7,bv_k7,HF_k7,k7⟩:=eJ.foc t0 f12;obtain ⟨rs_k7,s14,s15,s16,s17,s18,s19,s20⟩:=k7.rows;have s21:=(eJ.funcsR t0);have s8:=eJ.fpEq t0 f10;have s22:eJ F0 (.pp (oP F0) (a0.f_.toNat*6)) S0 C0 m.hp a0:=by rw [←s8];exact t0
   obtain ⟨x9,h23,hy4⟩:=aA hy4;refine dR (o0 [0,1,2,3,4,5,6,7,8,9,10,11,12,13,14]) 18 fun _ z=>?_;simp only [go_sem,seval,cQ u0,c5,s16,k7.hF,s8,w0];refine cB (aT a0 a1 (x6.cX != 0) 135 a2.fQ _ h23 _ _ _ P0 F0 fp0 S0 C0 (by simp only [go_sem,seval,cQ u0,s8,s22,w0])) rfl ?_;simp only [go_sem,s8];apply z;simp only [aL];cases hy4;refine ⟨by decide,?_⟩;simp only [go_sem,seval,cQ u0,s8,s22]
  ·obtain ⟨x24,h25,hy4⟩:=aA hy4;refine dR (o0 [0,1,2,3,4,5,6,7,8,9,10,11,12,13,14]) 18 fun _ z=>?_;simp only [go_sem,seval,c5];refine cB (aT a0 a1 false 135 a2.fQ _ h25 _ _ _ P0 F0 fp0 S0 C0 (by simp only [go_sem,seval,cQ u0,t0,w0])) rfl ?_;simp only [go_sem];apply z;simp only [aL];cases hy4;refine ⟨by decide,?_⟩;simp only [go_sem,seval,cQ u0,t0]
 ·intro E26 m27 e28 _;refine aF (aF ?_);obtain ⟨y29,hy29,h⟩:=aA h;refine gN 31 (fun E' m'=>E' 0=.ptr P0 0/\E' 5=.ptr (0::q) 0/\E' 6=.ptr (1::q) 0/\E' 8=.ptr (2::q) 0/\E' 37=.lit (.bool y29)/\m'.blk P0=some (nU F0 fp0 S0 C0 a0 y4)/\eJ F0 fp0 S0 C0 m'.hp a0/\m'.blk (0::q)=some ((aB.C a2))/\m'.blk (1::q)=some ([.lit (.string (bs a3.lE)),.lit (.int .i64 a3.mD),.lit (.int .i64 a3.pE),.nilv,.list .none (a3.eH.map aH.C),.list .none (a3.rZ.map aH.C),.lit (.int .i64 a3.fQ)])/\m'.blk (2::q)=some ([.lit (.string (bs [])),.lit (.int .i64 0),.lit (.int .i64 0),.list .self ([].map aG.C),.list .self ([].map aH.C),.list .self ([].map aH.C),.lit (.int .i64 0)])/\m'.gl=m.gl/\Fr q P0 m m'/\m'.hp=m.hp) ?_ ?_
  ·rcases dH hy29 with ⟨c30,hy29⟩ | ⟨c30,hy29⟩
   ·obtain ⟨x31,h36,hy29⟩:=aA hy29;obtain ⟨f33,f34,f35⟩:=aX h36;have f37:a2.aP[0]? = some x31:=f35;obtain ⟨x32,h38,hy29⟩:=aA hy29;refine aN fun _ z=>?_;simp only [go_sem,seval,c30,f33,f34,f37,e28];refine SC.by_ (pK n a0 y4 x31 _ h38 _ _ _ P0 F0 fp0 S0 C0 (by simp only [go_sem,t0,e28,hg0])) ?_;simp only [go_sem,seval];apply z;cases hy29;refine ⟨by decide,?_⟩;simp only [go_sem,seval,t0,e28]
   ·refine aN fun _ z=>?_;simp only [go_sem,seval,c30,e28];apply z;cases hy29;refine ⟨by decide,?_⟩;simp only [go_sem,seval,t0,e28]
  ·intro E39 m40 e41 _;refine bJ h (fun c42 h=>?_) (fun c42 h=>?_)
   ·refine aF ?_;obtain ⟨x43,h48,h⟩:=aA h;obtain ⟨f45,f46,f47⟩:=aX h48;have f49:a2.aP[0]? = some x43:=f47;obtain ⟨x44,h50,h⟩:=aA h;refine BA [0,0,2,6,14,0,63,127] 6 [] rfl (by kernel_rfl) fun _ z=>?_;rw [show List.range 6=[0,1,2,3,4,5] from rfl];simp only [go_sem,seval,f45,f46,f49,e41];refine SC.mono (oI n a0 y4 x43 ({ a3 with aP:=[] }:aH) (-2:Int) _ h50 _ _ _ P0 F0 fp0 S0 C0 (by simp only [go_sem,t0,e41,hg0])) ?_;rintro _ _ ⟨h_x44,vr_x44,rfl,rfl,hk_x44⟩;simp only [go_sem,seval,cQ u0,e41];apply z;refine aM ?_;simp only [go_sem,seval,cQ u0,e41];refine aF (aM ?_);simp only [go_sem,seval,cQ u0,e41];refine bJ h (fun c51 h=>?_) (fun c51 h=>?_)
    ·have s58:=(eJ.funcsR hk_x44);obtain ⟨x52,h62,h⟩:=aA h;obtain ⟨f59,f60,f61⟩:=aX h62;obtain ⟨vv_k53,bv_k53,HF_k53,k53⟩:=eJ.foc hk_x44 f61;obtain ⟨rs_k53,s63,s64,s65,s66,s67,s68,s69⟩:=k53.rows;obtain ⟨x54,h73,h⟩:=aA h;obtain ⟨f70,f71,f72⟩:=aX h73;obtain ⟨vv_k55,bv_k55,HF_k55,k55⟩:=eJ.foc hk_x44 f72;have hHF:=k53.hF.symm.trans k55.hF
     injection hHF with hHF
     subst hHF;obtain ⟨rs_k55,s74,s75,s76,s77,s78,s79,s80⟩:=k55.rows;have s56:=eJ.fpEq hk_x44 f70;have s81:eJ F0 (.pp (oP F0) (x44.2.1.f_.toNat*6)) S0 C0 h_x44 x44.2.1:=by rw [←s56];exact hk_x44
     obtain ⟨x57,h82,h⟩:=aA h;refine dR (o0 [0,1,2,3,4,5,6,7,8,9,10,11,12,13,14,15,16,17,18,19,20,21]) 70 fun _ z=>?_;simp only [go_sem,seval,cQ u0,c51,s58.ld,sQ.ix (P:=prog) (k:=.i64) (eJ.funcsR hk_x44) JL f59 f60,s65,k53.hF,s76,s56,e41];refine cB (aT x44.2.1 x44.2.2 (x52.cX == x54.cX) 132 a2.fQ _ h82 _ _ _ P0 F0 fp0 S0 C0 (by simp only [go_sem,seval,cQ u0,s56,s81])) rfl ?_;simp only [go_sem,s56];apply z;refine aM ?_;simp only [go_sem,seval,cQ u0,e41];refine aQ ?_
     try simp only [aU]
     cases h;refine ⟨by simp,?_⟩;simp only [go_sem,seval,cQ u0,s56,e41];refine ⟨_,_,Fr.to (q:=q) (p:=P0) ?_ u0 (by simp only [go_sem,seval,cQ u0]),?_⟩
     ·simp only [go_sem,e41]
     ·simp only [go_sem,s81]
    ·refine aV ?_
     refine aM ?_;simp only [go_sem,seval,cQ u0,c51,e41];refine aQ ?_
     try simp only [aU]
     cases h;refine ⟨by simp,?_⟩;simp only [go_sem,seval,cQ u0,e41];refine ⟨_,_,Fr.to (q:=q) (p:=P0) ?_ u0 (by simp only [go_sem,seval,cQ u0]),?_⟩
     ·simp only [go_sem,e41]
     ·simp only [go_sem,hk_x44]
   ·refine aV ?_
    refine aF ?_;obtain ⟨x83,h89,h⟩:=aA h;obtain ⟨f86,f87,f88⟩:=aX h89;have f90:a2.aP[0]? = some x83:=f88;obtain ⟨x84,h91,h⟩:=aA h;refine aN fun _ z=>?_;simp only [go_sem,seval,f86,f87,f90,e41];refine SC.by_ (jF n a0 y4 x83 _ h91 _ _ _ P0 F0 fp0 S0 C0 (by simp only [go_sem,t0,e41,hg0])) ?_;simp only [go_sem,seval];apply z;refine aF (dR [(2,0),(3,0),(0,1),(1,0),(4,0),(5,0)] 45 fun _ z=>?_);simp only [go_sem,seval,cQ u0,e41];apply z;refine aF ?_;obtain ⟨x92,h100,h⟩:=aA h;obtain ⟨f97,f98,f99⟩:=aX h100;obtain ⟨vv_k93,bv_k93,HF_k93,k93⟩:=eJ.foc t0 f99;obtain ⟨rs_k93,s101,s102,s103,s104,s105,s106,s107⟩:=k93.rows;have s108:=(eJ.funcsR t0);have s94:=eJ.fpEq t0 f97;have s109:eJ F0 (.pp (oP F0) (a0.f_.toNat*6)) S0 C0 m.hp a0:=by rw [←s94];exact t0
    obtain ⟨x95,h110,h⟩:=aA h;obtain ⟨x96,h111,h⟩:=aA h;refine dR [(1,0),(2,0),(3,0),(4,0),(5,0),(6,0),(7,0),(8,0),(9,0),(10,0),(0,0),(11,0),(12,1),(13,0)] 59 fun _ z=>?_;simp only [go_sem,seval,cQ u0,s103,k93.hF,s94,e41];refine cB (wE x84.1.cU x92.cX _ h110 _ _ _ (by simp only [go_sem])) rfl ?_;simp only [go_sem,seval,cQ u0,e41];refine cB (aT a0 x84.2 x95 132 a2.fQ _ h111 _ _ _ P0 F0 fp0 S0 C0 (by simp only [go_sem,seval,cQ u0,s94,s109,e41])) rfl ?_;simp only [go_sem,s94];apply z;refine aM ?_;simp only [go_sem,seval,cQ u0,e41];refine aQ ?_;cases h;refine ⟨by simp,?_⟩;simp only [go_sem,seval,s94,e41];refine ⟨_,_,Fr.to (q:=q) (p:=P0) ?_ u0 (by simp only [go_sem,seval,cQ u0]),?_⟩
    ·simp only [go_sem,e41]
    ·simp only [go_sem,s109,e41]
def kZ (f:aD->aI->aB->Bool->Option ((List aH) × aD × aI)):Prop:=∀a0 a1 a2 a3 r,f a0 a1 a2 a3=some r->∀(q:Pa) (m:M) (vs:List V) (P0:Pa) (F0 fp0 S0 C0:V),vs.map V.weak1=[.ptr P0 0,.agg ((aB.C a2)),.lit (.bool a3)]/\m.blk P0=some (nU F0 fp0 S0 C0 a0 a1)/\eJ F0 fp0 S0 C0 m.hp a0/\m.gl 0=.eptr [(cA bM.C cZ)] 0 0->SC prog 58 vs q m (fun v m'=>∃(S:V) (h:Hp) (vr:Nat->Nat),v=.list .none (r.1.map aH.C)/\m'=m.ck P0 (nU F0 fp0 S C0 r.2.1 r.2.2) h vr/\eJ F0 fp0 S C0 h r.2.1)
def oU (f:aD->aI->aB->Bool->Option (aH × aD × aI)):Prop:=∀a0 a1 a2 a3 r,f a0 a1 a2 a3=some r->∀(q:Pa) (m:M) (vs:List V) (P0:Pa) (F0 fp0 S0 C0:V),vs.map V.weak1=[.ptr P0 0,.agg ((aB.C a2)),.lit (.bool a3)]/\m.blk P0=some (nU F0 fp0 S0 C0 a0 a1)/\eJ F0 fp0 S0 C0 m.hp a0/\m.gl 0=.eptr [(cA bM.C cZ)] 0 0->SC prog 89 vs q m (fun v m'=>∃(S:V) (h:Hp) (vr:Nat->Nat),v=.agg ((aH.C r.1))/\m'=m.ck P0 (nU F0 fp0 S C0 r.2.1 r.2.2) h vr/\eJ F0 fp0 S C0 h r.2.1)
def rB (f:aD->aI->aB->aH->Option (aH × aD × aI)):Prop:=∀a0 a1 a2 a3 r,f a0 a1 a2 a3=some r->∀(q:Pa) (m:M) (vs:List V) (P0:Pa) (F0 fp0 S0 C0:V),vs.map V.weak1=[.ptr P0 0,.agg ((aB.C a2)),.agg ([.lit (.string (bs a3.lE)),.lit (.int .i64 a3.mD),.lit (.int .i64 a3.pE),.nilv,.list .none (a3.eH.map aH.C),.list .none (a3.rZ.map aH.C),.lit (.int .i64 a3.fQ)])]/\m.blk P0=some (nU F0 fp0 S0 C0 a0 a1)/\eJ F0 fp0 S0 C0 m.hp a0/\m.gl 0=.eptr [(cA bM.C cZ)] 0 0->SC prog 145 vs q m (fun v m'=>∃(S:V) (h:Hp) (vr:Nat->Nat),v=.agg ((aH.C r.1))/\m'=m.ck P0 (nU F0 fp0 S C0 r.2.1 r.2.2) h vr/\eJ F0 fp0 S C0 h r.2.1)
theorem yP {dT} (qM:oU dT) (n:Nat):kZ (kY dT n):=by
 rintro a0 a1 a2 a3 r h q m vs P0 F0 fp0 S0 C0 ⟨hv,w0,t0,hg0⟩;refine SC.wv hv ?_;refine SC.ap w0 fun u0 l0=>?_
 try simp only [go_sem] at w0 l0
 refine dZ func58 call58 ntmps58 results58 ?_;unfold kY at h;refine aM ?_;simp only [go_sem,seval];refine aF ?_;have s2:=(eJ.scopeS t0);refine aN fun _ z=>?_;simp only [go_sem,seval,fC u0,s2.slen,s2.ld,w0];apply z;refine aM ?_;simp only [go_sem,seval];refine aF (aM ?_);simp only [go_sem,seval];refine bN ?_;obtain ⟨y8,hy8,h⟩:=aA h;refine zA 8 ([].map aH.C) rfl (by simp only [go_sem,seval]) ?_;refine kN (fun c E' m'=>∃v4 v5 v6 v7 o_v4 j_v4 S_v6,iR dT a2 a3 c v4 v5 v6 v7=some y8/\E' 0=.ptr P0 0/\E' 2=.lit (.bool a3)/\E' 4=.ptr (0::q) 0/\E' 7=.lit (.int .i64 (a0.bL.length:Int))/\E' 8=.list (.st (.anon o_v4 j_v4)) (v4.map aH.C)/\m'.tok o_v4 j_v4=true/\q <:+ o_v4/\E' 17=.list .none (a2.aP.map aB.C)/\E' 18=.lit (.int .i64 (a2.aP.length:Int))/\E' 19=.lit (.int .i64 v5)/\m'.blk P0=some (nU F0 fp0 S_v6 C0 v6 v7)/\eJ F0 fp0 S_v6 C0 m'.hp v6/\m'.blk (0::q)=some ((aB.C a2))/\m'.gl=m.gl/\Fr q P0 m m') n ⟨[],0,a0,a1,(13::q),0,S0,hy8,?_⟩ ?_
 ·simp only [go_sem,seval,DS u0,fC u0,t0,w0]
 rintro i3 c9 E10 m11 ⟨v4,v5,v6,v7,o_v4,j_v4,S_v6,hy8,e12⟩ _
 rcases c9 with _ | c9
 ·cases hy8
 rw [iR] at hy8;have hk_v6:eJ F0 fp0 S_v6 C0 m11.hp v6:=by simp only [e12]
 refine aM ?_;simp only [go_sem,seval,e12];refine aF (bJ hy8 (fun c13 hy8=>?_) (fun c13 hy8=>?_))
 ·refine aV ?_
  refine aF (bN (aF ?_));obtain ⟨x14,h19,hy8⟩:=aA hy8;obtain ⟨f16,f17,f18⟩:=aX h19;refine aN fun _ z=>?_;simp only [go_sem,seval,f16,f17,f18,e12];apply z;refine aF (aM ?_);simp only [go_sem,seval,fC u0,e12];refine bJ hy8 (fun c20 hy8=>?_) (fun c20 hy8=>?_)
  ·refine dQ ?_
   try simp only [seval,bZ,bR,aL]
   cases hy8;refine aF ?_;have s24:=(eJ.scopeS hk_v6);obtain ⟨⟨f21',f22'⟩,h⟩:=bS h;have f21:0<=(a0.bL.length:Int):=f21';have f22:(a0.bL.length:Int)<=(v6.bL.length:Int):=f22';have s25:sQ (wS S_v6 (a0.bL.length)) 1 (v6.bL.take (a0.bL.length)).length:=sQ.cutL (eJ.scopeS hk_v6) f22;have k23:eJ F0 fp0 (wS S_v6 (a0.bL.length)) C0 m11.hp ({ v6 with bL:=(v6.bL.take (a0.bL.length)) }:aD):=eJ.cutS hk_v6 (by omega) rfl rfl rfl rfl;refine aN fun _ z=>?_;simp only [go_sem,seval,fC u0,c20,s24.ld,sQ.slHi (P:=prog) (k:=.i64) (eJ.scopeS hk_v6) PM f21 f22,s25.cells,s25.cok,s25.st1,e12];apply z;refine aM ?_;simp only [go_sem,seval,e12];refine aQ ?_;cases h;refine ⟨by simp,?_⟩;simp only [go_sem,seval];refine ⟨(wS S_v6 (a0.bL.length)),_,_,Fr.to (q:=q) (p:=P0) ?_ u0 (by simp only [go_sem,seval]),?_⟩
   ·simp only [go_sem,e12]
   ·simp only [go_sem,k23]
  ·refine aV ?_
   try simp only [aL]
   obtain ⟨y26,hy26,hy8⟩:=aA hy8;refine gN 28 (fun E' m'=>∃(oy26_8:Pa) (jy26_8:Nat),∃(S_y26_2_1:V),E' 0=.ptr P0 0/\E' 2=.lit (.bool a3)/\E' 4=.ptr (0::q) 0/\E' 7=.lit (.int .i64 (a0.bL.length:Int))/\E' 8=.list (.st (.anon oy26_8 jy26_8)) (y26.1.map aH.C)/\m'.tok oy26_8 jy26_8=true/\q <:+ oy26_8/\E' 17=.list .none (a2.aP.map aB.C)/\E' 18=.lit (.int .i64 (a2.aP.length:Int))/\E' 19=.lit (.int .i64 v5)/\m'.blk P0=some (nU F0 fp0 S_y26_2_1 C0 y26.2.1 y26.2.2)/\eJ F0 fp0 S_y26_2_1 C0 m'.hp y26.2.1/\m'.blk (0::q)=some ((aB.C a2))/\m'.gl=m.gl/\Fr q P0 m m') ?_ ?_
   ·rcases dH hy26 with ⟨c27,hy26⟩ | ⟨c27,hy26⟩
    ·obtain ⟨x28,h29,hy26⟩:=aA hy26;refine aN fun _ z=>?_;simp only [go_sem,seval,c20,c27,e12];refine SC.mono (qM v6 v7 x14 (v5 == (i64.wrap ((a2.aP.length:Int) - 1))) _ h29 _ _ _ P0 F0 fp0 S_v6 C0 (by simp only [go_sem,seval,fC u0,hk_v6,e12,hg0])) ?_;rintro _ _ ⟨S_x28,h_x28,vr_x28,rfl,rfl,hk_x28⟩;obtain ⟨f30,hy26⟩:=bS hy26;have f31:v4.length+1<=1073741824:=by first | omega | (simp only [nL,jK,lD] at f30 ⊢;omega)
     have f32:v4.length<=1073741823:=by first | omega | (simp only [nL,jK,lD] at f30 ⊢;omega)
     simp only [go_sem,seval,f31,e12];apply z;cases hy26;refine ⟨by decide,(26::i3::14::q),0,S_x28,?_⟩;simp only [go_sem,seval,DS u0,fC u0,c27,hk_x28,e12]
    ·obtain ⟨x33,h34,hy26⟩:=aA hy26;refine aN fun _ z=>?_;simp only [go_sem,seval,c20,c27,e12];refine SC.mono (qM v6 v7 x14 false _ h34 _ _ _ P0 F0 fp0 S_v6 C0 (by simp only [go_sem,seval,fC u0,hk_v6,e12,hg0])) ?_;rintro _ _ ⟨S_x33,h_x33,vr_x33,rfl,rfl,hk_x33⟩;obtain ⟨f35,hy26⟩:=bS hy26;have f36:v4.length+1<=1073741824:=by first | omega | (simp only [nL,jK,lD] at f35 ⊢;omega)
     have f37:v4.length<=1073741823:=by first | omega | (simp only [nL,jK,lD] at f35 ⊢;omega)
     simp only [go_sem,seval,f36,e12];apply z;cases hy26;refine ⟨by decide,(26::i3::14::q),0,S_x33,?_⟩;simp only [go_sem,seval,DS u0,fC u0,c27,hk_x33,e12]
   ·rintro E38 m39 ⟨oy26_8,jy26_8,S_y26_2_1,e40⟩ _;simp only [aL,aS];have hk_y26_2_1:eJ F0 fp0 S_y26_2_1 C0 m39.hp y26.2.1:=by simp only [e40]
    refine aN fun _ z=>?_;simp only [go_sem,seval,e40];apply z;refine ⟨c9,xH _,y26.1,(i64.wrap (v5+1)),y26.2.1,y26.2.2,oy26_8,jy26_8,S_y26_2_1,hy8,?_⟩;simp only [go_sem,seval,hk_y26_2_1,e40]
 ·refine dQ ?_
  try simp only [bZ,bR,↓reduceIte,aL]
  cases hy8;refine aF ?_;have s44:=(eJ.scopeS hk_v6);obtain ⟨⟨f41',f42'⟩,h⟩:=bS h;have f41:0<=(a0.bL.length:Int):=f41';have f42:(a0.bL.length:Int)<=(v6.bL.length:Int):=f42';have s45:sQ (wS S_v6 (a0.bL.length)) 1 (v6.bL.take (a0.bL.length)).length:=sQ.cutL (eJ.scopeS hk_v6) f42;have k43:eJ F0 fp0 (wS S_v6 (a0.bL.length)) C0 m11.hp ({ v6 with bL:=(v6.bL.take (a0.bL.length)) }:aD):=eJ.cutS hk_v6 (by omega) rfl rfl rfl rfl;refine aN fun _ z=>?_;simp only [go_sem,seval,c13,s44.ld,sQ.slHi (P:=prog) (k:=.i64) (eJ.scopeS hk_v6) PM f41 f42,s45.cells,s45.cok,s45.st1,e12];apply z;refine aM ?_;simp only [go_sem,seval,e12];refine aQ ?_;cases h;refine ⟨by simp,?_⟩;simp only [go_sem,seval];refine ⟨(wS S_v6 (a0.bL.length)),_,_,Fr.to (q:=q) (p:=P0) ?_ u0 (by simp only [go_sem,seval]),?_⟩
  ·simp only [go_sem,e12]
  ·simp only [go_sem,k43]
theorem vV {dA} (mC:kZ dA) {nQ} (zX:rB nQ) (n:Nat):oU (iU dA nQ n):=by
 rintro a0 a1 a2 a3 r h q m vs P0 F0 fp0 S0 C0 ⟨hv,w0,t0,hg0⟩;refine SC.wv hv ?_;refine SC.ap w0 fun u0 l0=>?_
 try simp only [go_sem] at w0 l0
 refine dZ func89 call89 ntmps89 results89 ?_;unfold iU at h;refine aM ?_;simp only [go_sem,seval];refine aM ?_;simp only [go_sem,seval];refine tL (id:=(5::q)) (off:=3) (cs:=[.lit (.string (bs [])),.lit (.int .i64 (-1:Int)),.lit (.int .i64 0),.list .self ([].map aG.C),.list .self ([].map aH.C),.list .self ([].map aH.C),.lit (.int .i64 a2.fQ)]) (by simp only [go_sem,seval]) rfl ?_;refine aF (aM ?_);simp only [go_sem,seval];refine bN (aM ?_);simp only [go_sem,seval];refine bJ h (fun c4 h=>?_) (fun c4 h=>?_)
 ·refine aF ?_;obtain ⟨x5,h10,h⟩:=aA h;obtain ⟨f7,f8,f9⟩:=aX h10;have f11:a2.aP[0]? = some x5:=f9;obtain ⟨x6,h12,h⟩:=aA h;refine aN fun _ z=>?_;simp only [go_sem,seval,c4,f7,f8,f11];refine SC.by_ (iF n a0 a1 x5 _ h12 _ _ _ P0 F0 fp0 S0 C0 (by simp only [go_sem,seval,fC u0,t0,w0,hg0])) ?_;simp only [go_sem,seval,fC u0];apply z;obtain ⟨x13,h14,h⟩:=aA h;refine fB fun _ z=>?_;simp only [go_sem,seval,fC u0];refine SC.mono (gI n a0 x6.2 (aZ.mk a2.cP 1 0) a2.fQ _ h14 _ _ _ P0 F0 fp0 S0 C0 (by simp only [go_sem,seval,fC u0,t0])) ?_;rintro _ _ ⟨S_x13,h_x13,vr_x13,rfl,rfl,hk_x13⟩;simp only [go_sem,seval,fC u0];apply z;simp only [aL,aS];refine aM ?_;simp only [go_sem,seval,fC u0];refine aQ ?_;cases h;refine ⟨by simp,?_⟩;simp only [go_sem,seval,fC u0];refine ⟨S_x13,_,_,Fr.to (q:=q) (p:=P0) ?_ u0 (by simp only [go_sem,seval,fC u0]),?_⟩
  ·simp only [go_sem]
  ·simp only [go_sem,hk_x13]
 ·refine aM ?_;simp only [go_sem,seval,c4];refine bJ h (fun c15 h=>?_) (fun c15 h=>?_)
  ·refine aF ?_;obtain ⟨x16,h17,h⟩:=aA h;refine aN fun _ z=>?_;simp only [go_sem,seval,c15];refine SC.mono (AD n a0 a1 a2 (aH.mk [] (-1:Int) 0 [] [] [] a2.fQ) _ h17 _ _ _ P0 F0 fp0 S0 C0 (by simp only [go_sem,seval,fC u0,t0,w0,hg0])) ?_;rintro _ _ ⟨S_x16,h_x16,vr_x16,rfl,rfl,hk_x16⟩;simp only [go_sem,seval,fC u0];apply z;refine aQ ?_
   try simp only [aU,bK]
   cases h;refine ⟨by simp,?_⟩;simp only [go_sem,seval,fC u0];refine ⟨S_x16,_,_,Fr.to (q:=q) (p:=P0) ?_ u0 (by simp only [go_sem,seval,fC u0]),?_⟩
   ·simp only [go_sem]
   ·simp only [go_sem,hk_x16]
  ·refine aM ?_;simp only [go_sem,seval,c15];refine bJ h (fun c18 h=>?_) (fun c18 h=>?_)
   ·refine aF ?_;obtain ⟨x19,h21,h⟩:=aA h;obtain ⟨x20,h22,h⟩:=aA h;refine dR [(1,0),(2,0),(3,0),(4,0),(5,0),(0,0),(6,0),(7,1),(8,0)] 24 fun _ z=>?_;simp only [go_sem,seval,c18];refine cB (DA (i64.wrap (min a2.mE 1025)) _ h21 _ _ _ (by simp only [go_sem])) rfl ?_;simp only [go_sem,seval];refine cB (aT a0 a1 x19 136 a2.fQ _ h22 _ _ _ P0 F0 fp0 S0 C0 (by simp only [go_sem,seval,fC u0,t0,w0])) rfl ?_;simp only [go_sem];apply z;refine Nk (id:=(5::q)) (off:=3) (cs:=[.lit (.string (bs [])),.lit (.int .i64 (-1:Int)),.lit (.int .i64 0),.nilv,.list .self ([].map aH.C),.list .self ([].map aH.C),.lit (.int .i64 a2.fQ)]) (by simp only [go_sem,seval,fC u0]) rfl ?_;obtain ⟨x23,h24,h⟩:=aA h;refine fB fun _ z=>?_;simp only [go_sem,seval,fC u0];refine SC.mono (gI n a0 x20 (aZ.mk a2.cP 4 (i64.wrap a2.mE)) a2.fQ _ h24 _ _ _ P0 F0 fp0 S0 C0 (by simp only [go_sem,seval,fC u0,t0])) ?_;rintro _ _ ⟨S_x23,h_x23,vr_x23,rfl,rfl,hk_x23⟩;simp only [go_sem,seval,fC u0];apply z;simp only [aL,aS];refine aM ?_;simp only [go_sem,seval,fC u0];refine aQ ?_;cases h;refine ⟨by simp,?_⟩;simp only [go_sem,seval,fC u0];refine ⟨S_x23,_,_,Fr.to (q:=q) (p:=P0) ?_ u0 (by simp only [go_sem,seval,fC u0]),?_⟩
    ·simp only [go_sem]
    ·simp only [go_sem,hk_x23]
   ·refine aM ?_;simp only [go_sem,seval,c18];refine bJ h (fun c25 h=>?_) (fun c25 h=>?_)
    ·refine aF ?_;obtain ⟨x26,h27,h⟩:=aA h;refine aN fun _ z=>?_;simp only [go_sem,seval,c25];refine SC.mono (BU n a0 a1 a2 (aH.mk [] (-1:Int) 0 [] [] [] a2.fQ) _ h27 _ _ _ P0 F0 fp0 S0 C0 (by simp only [go_sem,seval,fC u0,t0,w0,hg0])) ?_;rintro _ _ ⟨h_x26,vr_x26,rfl,rfl,hk_x26⟩;simp only [go_sem,seval,fC u0];apply z;refine aQ ?_
     try simp only [aU,bK]
     cases h;refine ⟨by simp,?_⟩;simp only [go_sem,seval,fC u0];refine ⟨S0,_,_,Fr.to (q:=q) (p:=P0) ?_ u0 (by simp only [go_sem,seval,fC u0]),?_⟩
     ·simp only [go_sem]
     ·simp only [go_sem,hk_x26]
    ·refine aM ?_;simp only [go_sem,seval,c25];refine bJ h (fun c28 h=>?_) (fun c28 h=>?_)
     ·refine aF ?_;obtain ⟨x29,h30,h⟩:=aA h;refine aN fun _ z=>?_;simp only [go_sem,seval,c28];refine SC.by_ (BV n a0 a1 a2 (aH.mk [] (-1:Int) 0 [] [] [] a2.fQ) _ h30 _ _ _ P0 F0 fp0 S0 C0 (by simp only [go_sem,seval,fC u0,t0,w0,hg0])) ?_;simp only [go_sem,seval,fC u0];apply z;refine aQ ?_
      try simp only [aU,bK]
      cases h;refine ⟨by simp,?_⟩;simp only [go_sem,seval];refine ⟨S0,_,_,Fr.to (q:=q) (p:=P0) ?_ u0 (by simp only [go_sem,seval,fC u0]),?_⟩
      ·simp only [go_sem]
      ·simp only [go_sem,t0]
     ·refine aM ?_;simp only [go_sem,seval,c28];refine bJ h (fun c31 h=>?_) (fun c31 h=>?_)
      ·refine aF ?_;obtain ⟨x32,h33,h⟩:=aA h;refine aN fun _ z=>?_;simp only [go_sem,seval,c31];refine SC.mono (oI n a0 a1 a2 (aH.mk [] (-1:Int) 0 [] [] [] a2.fQ) (-1:Int) _ h33 _ _ _ P0 F0 fp0 S0 C0 (by simp only [go_sem,seval,fC u0,t0,w0,hg0])) ?_;rintro _ _ ⟨h_x32,vr_x32,rfl,rfl,hk_x32⟩;simp only [go_sem,seval,fC u0];apply z;refine aQ ?_
       try simp only [aU,bK]
       cases h;refine ⟨by simp,?_⟩;simp only [go_sem,seval,fC u0];refine ⟨S0,_,_,Fr.to (q:=q) (p:=P0) ?_ u0 (by simp only [go_sem,seval,fC u0]),?_⟩
       ·simp only [go_sem]
       ·simp only [go_sem,hk_x32]
      ·refine aM ?_;simp only [go_sem,seval,c31];refine bJ h (fun c34 h=>?_) (fun c34 h=>?_)
       ·refine aF ?_;obtain ⟨x35,h40,h⟩:=aA h;obtain ⟨f37,f38,f39⟩:=aX h40;have f41:a2.aP[0]? = some x35:=f39;obtain ⟨x36,h42,h⟩:=aA h;refine aN fun _ z=>?_;simp only [go_sem,seval,c34,f37,f38,f41];refine SC.by_ (iF n a0 a1 x35 _ h42 _ _ _ P0 F0 fp0 S0 C0 (by simp only [go_sem,seval,fC u0,t0,w0,hg0])) ?_;simp only [go_sem,seval,fC u0];apply z;refine aF ?_;obtain ⟨x43,h48,h⟩:=aA h;obtain ⟨f45,f46,f47⟩:=aX h48;have f49:a2.aP[1]? = some x43:=f47;obtain ⟨x44,h50,h⟩:=aA h;refine aN fun _ z=>?_;simp only [go_sem,seval,fC u0,f45,f46,f49];refine SC.mono (mC a0 x36.2 x43 false _ h50 _ _ _ P0 F0 fp0 S0 C0 (by simp only [go_sem,seval,fC u0,t0,hg0])) ?_;rintro _ _ ⟨S_x44,h_x44,vr_x44,rfl,rfl,hk_x44⟩;simp only [go_sem,seval,fC u0];apply z;refine aF ?_;obtain ⟨⟨f51,f52⟩,h⟩:=bS h;refine aN fun _ z=>?_;simp only [go_sem,seval,fC u0,f51,f52];apply z;refine bN ?_;obtain ⟨y58,hy58,h⟩:=aA h;refine Is [] [((5::q),5)] rfl (fun c E' m'=>∃v54 v55 v56 v57 S_v55,fT dA a2 c v54 v55 v56 v57=some y58/\E' 0=.ptr P0 0/\E' 6=.ptr (1::q) 0/\E' 7=.ptr (5::q) 0/\E' 101=.list .none ((a2.aP.drop 2).map aB.C)/\E' 102=.lit (.int .i64 ((a2.aP.drop 2).length:Int))/\E' 103=.lit (.int .i64 v54)/\m'.blk P0=some (nU F0 fp0 S_v55 C0 v55 v56)/\eJ F0 fp0 S_v55 C0 m'.hp v55/\m'.blk (1::q)=some ([.lit (.string (bs [])),.lit (.int .i64 0),.lit (.int .i64 0),.list .self ([].map aG.C),.list .self ([].map aH.C),.list .self ([].map aH.C),.lit (.int .i64 0)])/\m'.blk (5::q)=some ([.lit (.string (bs v57.lE)),.lit (.int .i64 v57.mD),.lit (.int .i64 v57.pE),.list .self (v57.aP.map aG.C),.list .none (v57.eH.map aH.C),.list .none (v57.rZ.map aH.C),.lit (.int .i64 v57.fQ)])/\m'.gl=m.gl/\Fr q P0 m m') n ⟨0,x44.2.1,x44.2.2,(aH.mk ([105,102]:cR) (-1:Int) 0 [x36.1] x44.1 [] a2.fQ),S_x44,hy58,?_⟩ ?_
        ·simp only [go_sem,seval,fC u0,hk_x44]
        rintro i53 c59 E60 m61 ⟨v54,v55,v56,v57,S_v55,hy58,e62⟩ _
        rcases c59 with _ | c59
        ·cases hy58
        rw [fT] at hy58;have hk_v55:eJ F0 fp0 S_v55 C0 m61.hp v55:=by simp only [e62]
        refine aM ?_;simp only [go_sem,e62];refine aF (bJ hy58 (fun c63 hy58=>?_) (fun c63 hy58=>?_))
        ·refine aV ?_
         refine aF (bN (aF ?_));obtain ⟨x64,h69,hy58⟩:=aA hy58;obtain ⟨f66,f67,f68⟩:=aX h69;refine aN fun _ z=>?_;simp only [go_sem,seval,f66,f67,f68,e62];apply z;obtain ⟨x70,h71,hy58⟩:=aA hy58;refine fB fun _ z=>?_;simp only [go_sem,seval,e62];refine SC.mono (mC v55 v56 x64 false _ h71 _ _ _ P0 F0 fp0 S_v55 C0 (by simp only [go_sem,seval,fC u0,hk_v55,e62,hg0])) ?_;rintro _ _ ⟨S_x70,h_x70,vr_x70,rfl,rfl,hk_x70⟩;simp only [go_sem,seval,fC u0,e62];apply z;simp only [aL,aS];refine aN fun _ z=>?_;simp only [go_sem,seval,e62];apply z;refine ⟨c59,xH _,(i64.wrap (v54+1)),x70.2.1,x70.2.2,({ v57 with rZ:=x70.1 }:aH),S_x70,hy58,?_⟩;simp only [go_sem,seval,fC u0,hk_x70,e62]
        ·refine dQ ?_
         try simp only [bZ,bR,↓reduceIte,aL,aS]
         cases hy58;refine aM ?_;simp only [go_sem,seval,c63,e62];refine aQ ?_;cases h;refine ⟨by simp,?_⟩;simp only [go_sem,seval,e62];refine ⟨S_v55,_,_,Fr.to (q:=q) (p:=P0) ?_ u0 (by simp only [go_sem,seval,fC u0,e62]),?_⟩
         ·simp only [go_sem,e62]
         ·simp only [go_sem,hk_v55]
       ·refine aM ?_;simp only [go_sem,seval,c34];refine bJ h (fun c72 h=>?_) (fun c72 h=>?_)
        ·refine aF ?_;obtain ⟨x73,h74,h⟩:=aA h;refine aN fun _ z=>?_;simp only [go_sem,seval,c72];refine SC.mono (zX a0 a1 a2 (aH.mk [] (-1:Int) 0 [] [] [] a2.fQ) _ h74 _ _ _ P0 F0 fp0 S0 C0 (by simp only [go_sem,seval,fC u0,t0,w0,hg0])) ?_;rintro _ _ ⟨S_x73,h_x73,vr_x73,rfl,rfl,hk_x73⟩;simp only [go_sem,seval,fC u0];apply z;refine aQ ?_
         try simp only [aU,bK]
         cases h;refine ⟨by simp,?_⟩;simp only [go_sem,seval,fC u0];refine ⟨S_x73,_,_,Fr.to (q:=q) (p:=P0) ?_ u0 (by simp only [go_sem,seval,fC u0]),?_⟩
         ·simp only [go_sem]
         ·simp only [go_sem,hk_x73]
        ·refine aM ?_;simp only [go_sem,seval,c72];refine bJ h (fun c75 h=>?_) (fun c75 h=>?_)
         ·refine aF ?_;obtain ⟨x76,h77,h⟩:=aA h;refine aN fun _ z=>?_;simp only [go_sem,seval,c75];refine SC.mono (Bp n a0 a1 a2 (aH.mk [] (-1:Int) 0 [] [] [] a2.fQ) a3 _ h77 _ _ _ P0 F0 fp0 S0 C0 (by simp only [go_sem,seval,fC u0,t0,w0,hg0])) ?_;rintro _ _ ⟨h_x76,vr_x76,rfl,rfl,hk_x76⟩;simp only [go_sem,seval,fC u0];apply z;refine aQ ?_
          try simp only [aU,bK]
          cases h;refine ⟨by simp,?_⟩;simp only [go_sem,seval,fC u0];refine ⟨S0,_,_,Fr.to (q:=q) (p:=P0) ?_ u0 (by simp only [go_sem,seval,fC u0]),?_⟩
          ·simp only [go_sem]
          ·simp only [go_sem,hk_x76]
         ·refine Nk (id:=(5::q)) (off:=3) (cs:=[.lit (.string (bs [])),.lit (.int .i64 (-1:Int)),.lit (.int .i64 0),.nilv,.list .self ([].map aH.C),.list .self ([].map aH.C),.lit (.int .i64 a2.fQ)]) (by simp only [go_sem,seval]) rfl ?_;refine aV ?_
          try simp only [aL,aS]
          refine aM ?_;simp only [go_sem,seval,c75];refine aQ ?_;cases h;refine ⟨by simp,?_⟩;simp only [go_sem,seval];refine ⟨S0,_,_,Fr.to (q:=q) (p:=P0) ?_ u0 (by simp only [go_sem,seval,fC u0,w0]),?_⟩
          ·simp only [go_sem]
          ·simp only [go_sem,t0]
theorem zO {dA} (mC:kZ dA) (n:Nat):rB (lU dA n):=by
 rintro a0 a1 a2 a3 r h q m vs P0 F0 fp0 S0 C0 ⟨hv,w0,t0,hg0⟩;refine SC.wv hv ?_;refine SC.ap w0 fun u0 l0=>?_
 try simp only [go_sem] at w0 l0
 refine dZ func145 call145 ntmps145 results145 ?_;unfold lU at h;refine aM ?_;simp only [go_sem,seval];refine tL (id:=(1::q)) (off:=3) (cs:=[.lit (.string (bs a3.lE)),.lit (.int .i64 a3.mD),.lit (.int .i64 a3.pE),.list .self ([].map aG.C),.list .none (a3.eH.map aH.C),.list .none (a3.rZ.map aH.C),.lit (.int .i64 a3.fQ)]) (by simp only [go_sem,seval]) rfl ?_;refine aF ?_;obtain ⟨x4,h11,h⟩:=aA h;obtain ⟨f8,f9,f10⟩:=aX h11;have f12:a2.aP[0]? = some x4:=f10;obtain ⟨x5,h13,h⟩:=aA h;obtain ⟨x6,h17,h⟩:=aA h;obtain ⟨f14,f15,f16⟩:=aX h17;have f18:a2.aP[1]? = some x6:=f16;obtain ⟨x7,h19,h⟩:=aA h;refine dR [(0,0),(1,0),(2,0),(3,0),(4,0),(5,0),(6,0),(7,0),(8,1),(9,0),(10,1),(11,0),(13,0),(14,0),(12,0),(15,0),(16,0)] 20 fun _ z=>?_;simp only [go_sem,seval,f8,f9,f12];refine cB (iF n a0 a1 x4 _ h13 _ _ _ P0 F0 fp0 S0 C0 (by simp only [go_sem,seval,cQ u0,t0,w0,hg0])) rfl ?_;simp only [go_sem,seval,cQ u0,f14,f15,f18];refine cB (iF n a0 x5.2 x6 _ h19 _ _ _ P0 F0 fp0 S0 C0 (by simp only [go_sem,seval,t0,hg0])) rfl ?_;simp only [go_sem,seval,cQ u0];apply z;refine aF ?_;have s20:=(eJ.scopeS t0);refine aN fun _ z=>?_;simp only [go_sem,seval,cQ u0,s20.slen,s20.ld];apply z;refine aF ?_;obtain ⟨x21,h22,h⟩:=aA h;refine aN fun _ z=>?_;simp only [go_sem,seval,cQ u0];refine SC.mono (gI n a0 x7.2 (aZ.mk a2.cP 1 0) a2.fQ _ h22 _ _ _ P0 F0 fp0 S0 C0 (by simp only [go_sem,seval,cQ u0,t0])) ?_;rintro _ _ ⟨S_x21,h_x21,vr_x21,rfl,rfl,hk_x21⟩;simp only [go_sem,seval,cQ u0];apply z;refine aF ?_;obtain ⟨x23,h28,h⟩:=aA h;obtain ⟨f25,f26,f27⟩:=aX h28;have f29:a2.aP[2]? = some x23:=f27;obtain ⟨x24,h30,h⟩:=aA h;refine aN fun _ z=>?_;simp only [go_sem,seval,cQ u0,f25,f26,f29];refine SC.mono (mC x21.2.1 x21.2.2 x23 false _ h30 _ _ _ P0 F0 fp0 S_x21 C0 (by simp only [go_sem,seval,cQ u0,hk_x21,hg0])) ?_;rintro _ _ ⟨S_x24,h_x24,vr_x24,rfl,rfl,hk_x24⟩;simp only [go_sem,seval,cQ u0];apply z;refine aF ?_;have s34:=(eJ.scopeS hk_x24);obtain ⟨⟨f31',f32'⟩,h⟩:=bS h;have f31:0<=(min (a0.bL.length:Int) (x24.2.1.bL.length:Int)):=f31';have f32:(min (a0.bL.length:Int) (x24.2.1.bL.length:Int))<=(x24.2.1.bL.length:Int):=f32';have s35:sQ (wS S_x24 ((min (a0.bL.length:Int) (x24.2.1.bL.length:Int)).toNat)) 1 (x24.2.1.bL.take ((min (a0.bL.length:Int) (x24.2.1.bL.length:Int)).toNat)).length:=sQ.cutL (eJ.scopeS hk_x24) f32;have k33:eJ F0 fp0 (wS S_x24 ((min (a0.bL.length:Int) (x24.2.1.bL.length:Int)).toNat)) C0 h_x24 ({ x24.2.1 with bL:=(x24.2.1.bL.take ((min (a0.bL.length:Int) (x24.2.1.bL.length:Int)).toNat)) }:aD):=eJ.cutS hk_x24 (by omega) rfl rfl rfl rfl;refine dR (o0 [0,1,2,3,4,5,6,7,8,9,10,11,12,13,14,15]) 59 fun _ z=>?_;simp only [go_sem,seval,cQ u0,s34.slen,s34.ld,sQ.slHi (P:=prog) (k:=.i64) (eJ.scopeS hk_x24) PM f31 f32,s35.cells,s35.cok,s35.st1];apply z;refine aM ?_;simp only [go_sem,seval,cQ u0];refine aQ ?_;cases h;refine ⟨by simp,?_⟩;simp only [go_sem,seval,cQ u0];refine ⟨(wS S_x24 ((min (a0.bL.length:Int) (x24.2.1.bL.length:Int)).toNat)),_,_,Fr.to (q:=q) (p:=P0) ?_ u0 (by simp only [go_sem,seval,cQ u0]),?_⟩
 ·simp only [go_sem]
 ·simp only [go_sem,k33]
theorem rL:∀n,kZ (rU n)/\oU (zK n)/\rB (Dn n)
 | 0=>⟨fun _ _ _ _ _ h=>fL h,fun _ _ _ _ _ h=>fL h,fun _ _ _ _ _ h=>fL h⟩
 | n+1=>
   have ih:=rL n
   ⟨yP ih.2.1 n,vV ih.1 ih.2.2 n,zO ih.1 n⟩
theorem AG (n:Nat):kZ (rU n):=(rL n).1
def Gf (f:aB->Option Bool):Prop:=∀a0 r,f a0=some r->∀(q:Pa) (m:M) (vs:List V),vs.map V.weak1=[.agg ((aB.C a0))]->SC prog 59 vs q m (fun v m'=>v=.lit (.bool r)/\m'=m)
theorem FC:Gf (tF):=by
 intro a0 r h q m vs hv;refine SC.wv hv (dZ func59 call59 ntmps59 results59 ?_);unfold tF at h;refine aM ?_;simp only [go_sem,seval];refine aF ?_;obtain ⟨y2,hy2,h⟩:=aA h;refine gN 19 (fun E' m'=>E' 2=.lit (.bool y2)/\m'.gl=m.gl/\m.back q m'=m) ?_ ?_
 ·rcases dH hy2 with ⟨c3,hy2⟩ | ⟨c3,hy2⟩
  ·obtain ⟨x4,h8,hy2⟩:=aA hy2;obtain ⟨f5,f6,f7⟩:=aX h8;refine aN fun _ z=>?_;simp only [go_sem,seval,c3,f5,f6,f7];apply z;cases hy2;refine ⟨by decide,?_⟩;simp only [go_sem,seval,aO,aJ]
  ·refine aN fun _ z=>?_;simp only [go_sem,seval,c3];apply z;cases hy2;refine ⟨by decide,?_⟩;simp only [go_sem,seval,aO,aJ]
 ·intro E9 m10 e11 _;refine aQ ?_;cases h;refine ⟨by simp,?_⟩;simp only [go_sem,e11]
def Cd (f:aD->aI->Int->aB->Option (aD × aI)):Prop:=∀a0 a1 a2 a3 r,f a0 a1 a2 a3=some r->∀(q:Pa) (m:M) (vs:List V) (P0:Pa) (F0 fp0 S0 C0:V),vs.map V.weak1=[.ptr P0 0,.lit (.int .i64 a2),.agg ((aB.C a3))]/\m.blk P0=some (nU F0 fp0 S0 C0 a0 a1)/\eJ F0 fp0 S0 C0 m.hp a0/\m.gl 0=.eptr [(cA bM.C cZ)] 0 0->SC prog 28 vs q m (fun v m'=>∃(fp S:V) (h:Hp) (vr:Nat->Nat),v=.tup []/\m'=m.ck P0 (nU F0 fp S C0 r.1 r.2) h vr/\eJ F0 fp S C0 h r.1)
theorem Bo (n:Nat):Cd (jO n):=by
 rintro a0 a1 a2 a3 r h q m vs P0 F0 fp0 S0 C0 ⟨hv,w0,t0,hg0⟩;refine SC.wv hv ?_;refine SC.ap w0 fun u0 l0=>?_
 try simp only [go_sem] at w0 l0
 refine dZ func28 call28 ntmps28 results28 ?_;unfold jO at h;refine aM ?_;simp only [go_sem];refine aF ?_;obtain ⟨x2,h3,h⟩:=aA h;refine aN fun _ z=>?_;simp only [go_sem,seval];refine SC.mono (tC n a0 a1 a2 _ h3 _ _ _ P0 F0 fp0 S0 C0 (by simp only [go_sem,seval,fC u0,t0,w0])) ?_;rintro _ _ ⟨fp_x2,S_x2,h_x2,vr_x2,rfl,rfl,hk_x2⟩;simp only [go_sem,seval];apply z;refine aF ?_;obtain ⟨⟨f4,f5⟩,h⟩:=bS h;refine aN fun _ z=>?_;simp only [go_sem,seval,fC u0,f4,f5];apply z;refine bN ?_;obtain ⟨y10,hy10,h⟩:=aA h;refine kN (fun c E' m'=>∃v7 v8 v9 S_v8,hY n a3 c v7 v8 v9=some y10/\E' 0=.ptr P0 0/\E' 5=.ptr (0::q) 0/\E' 18=.list .none ((a3.aP.drop (max (i64.wrap ((a3.aP.length:Int) - 1)) 0).toNat).map aB.C)/\E' 19=.lit (.int .i64 ((a3.aP.drop (max (i64.wrap ((a3.aP.length:Int) - 1)) 0).toNat).length:Int))/\E' 20=.lit (.int .i64 v7)/\m'.blk P0=some (nU F0 fp_x2 S_v8 C0 v8 v9)/\eJ F0 fp_x2 S_v8 C0 m'.hp v8/\m'.blk (0::q)=some ((aB.C a3))/\m'.gl=m.gl/\Fr q P0 m m') n ⟨0,x2.1,x2.2,S_x2,hy10,?_⟩ ?_
 ·simp only [go_sem,seval,fC u0,hk_x2]
 rintro i6 c11 E12 m13 ⟨v7,v8,v9,S_v8,hy10,e14⟩ _
 rcases c11 with _ | c11
 ·cases hy10
 rw [hY] at hy10;have hk_v8:eJ F0 fp_x2 S_v8 C0 m13.hp v8:=by simp only [e14]
 refine aM ?_;simp only [go_sem,e14];refine aF (bJ hy10 (fun c15 hy10=>?_) (fun c15 hy10=>?_))
 ·refine aV ?_
  refine aF (bN (aF ?_));obtain ⟨x16,h21,hy10⟩:=aA hy10;obtain ⟨f18,f19,f20⟩:=aX h21;refine aN fun _ z=>?_;simp only [go_sem,seval,f18,f19,f20,e14];apply z;refine aF ?_;obtain ⟨x22,h33,hy10⟩:=aA hy10;obtain ⟨f30,f31,f32⟩:=aX h33;obtain ⟨vv_k23,bv_k23,HF_k23,k23⟩:=eJ.foc hk_v8 f32;obtain ⟨rs_k23,s34,s35,s36,s37,s38,s39,s40⟩:=k23.rows;have s41:=(eJ.funcsR hk_v8);have s24:=eJ.fpEq hk_v8 f30;have s42:eJ F0 (.pp (oP F0) (v8.f_.toNat*6)) S_v8 C0 m13.hp v8:=by rw [←s24];exact hk_v8
  obtain ⟨x25,h43,hy10⟩:=aA hy10;refine BA [0,1,3,7,0,0,48,127,255,511] 6 [0,1,2,3] rfl (by kernel_rfl) fun _ z=>?_;rw [show List.range 6=[0,1,2,3,4,5] from rfl];simp only [go_sem,seval,fC u0,s24,e14];refine SC.mono (AG n v8 v9 x16 true _ h43 _ _ _ P0 F0 fp_x2 S_v8 C0 (by simp only [go_sem,seval,fC u0,s24,s42,e14,hg0])) ?_;rintro _ _ ⟨S_x25,h_x25,vr_x25,rfl,rfl,hk_x25⟩;obtain ⟨x26,h47,hy10⟩:=aA hy10;obtain ⟨f44,f45,f46⟩:=aX h47;obtain ⟨vv_k27,bv_k27,HF_k27,k27⟩:=eJ.foc hk_x25 f46;obtain ⟨rs_k27,s48,s49,s50,s51,s52,s53,s54⟩:=k27.rows;have k28:eJ F0 fp_x2 S_x25 C0 (rR h_x25 (oP F0) (HF_k27.set (v8.f_.toNat*6+5) (.list .none (x25.1.map aH.C)))) ({ x25.2.1 with p_:=⟨(x25.2.1.p_.bG.set v8.f_.toNat { x26 with eH:=x25.1 })⟩ }:aD):=Gm.setBody k27 rfl rfl rfl rfl;have k29:eJ F0 (.pp (oP F0) (v8.f_.toNat*6)) S_x25 C0 (rR h_x25 (oP F0) (HF_k27.set (v8.f_.toNat*6+5) (.list .none (x25.1.map aH.C)))) ({ x25.2.1 with p_:=⟨(x25.2.1.p_.bG.set v8.f_.toNat { x26 with eH:=x25.1 })⟩ }:aD):=by rw [←s24];exact k28
  simp only [go_sem,seval,rG,s24,k27.hF,k27.len5,e14];apply z;simp only [aL];obtain ⟨y55,hy55,hy10⟩:=aA hy10;refine gN 31 (fun E' m'=>E' 0=.ptr P0 0/\E' 5=.ptr (0::q) 0/\E' 18=.list .none ((a3.aP.drop (max (i64.wrap ((a3.aP.length:Int) - 1)) 0).toNat).map aB.C)/\E' 19=.lit (.int .i64 ((a3.aP.drop (max (i64.wrap ((a3.aP.length:Int) - 1)) 0).toNat).length:Int))/\E' 20=.lit (.int .i64 v7)/\m'.blk P0=some (nU F0 fp_x2 S_x25 C0 ({ x25.2.1 with p_:=⟨(x25.2.1.p_.bG.set v8.f_.toNat { x26 with eH:=x25.1 })⟩ }:aD) y55)/\eJ F0 fp_x2 S_x25 C0 m'.hp ({ x25.2.1 with p_:=⟨(x25.2.1.p_.bG.set v8.f_.toNat { x26 with eH:=x25.1 })⟩ }:aD)/\m'.blk (0::q)=some ((aB.C a3))/\m'.gl=m.gl/\Fr q P0 m m'/\m'.hp=(rR h_x25 (oP F0) (HF_k27.set (v8.f_.toNat*6+5) (.list .none (x25.1.map aH.C))))) ?_ ?_
  ·obtain ⟨x56,h62,hy55⟩:=aA hy55;obtain ⟨f59,f60,f61⟩:=aX h62;obtain ⟨vv_k57,bv_k57,HF_k57,k57⟩:=eJ.foc k28 f61;obtain ⟨rs_k57,s63,s64,s65,s66,s67,s68,s69⟩:=k57.rows;have k58:eJ F0 (.pp (oP F0) (v8.f_.toNat*6)) S_x25 C0 (rR h_x25 (oP F0) (HF_k27.set (v8.f_.toNat*6+5) (.list .none (x25.1.map aH.C)))) ({ x25.2.1 with p_:=⟨(x25.2.1.p_.bG.set v8.f_.toNat { x26 with eH:=x25.1 })⟩ }:aD):=by rw [←s24];exact k28
   rcases dH hy55 with ⟨c70,hy55⟩ | ⟨c70,hy55⟩
   ·obtain ⟨x71,h72,hy55⟩:=aA hy55;refine dR [(1,0),(2,0),(3,0),(4,0),(5,0),(6,0),(7,0),(8,0),(9,0),(10,0),(11,0),(0,0),(12,0),(13,0),(14,1),(15,0)] 31 fun _ z=>?_;simp only [go_sem,seval,fC u0,s65,k57.hF,c70,e14];refine cB (aT ({ x25.2.1 with p_:=⟨(x25.2.1.p_.bG.set v8.f_.toNat { x26 with eH:=x25.1 })⟩ }:aD) x25.2.2 true 135 a3.fQ _ h72 _ _ _ P0 F0 fp_x2 S_x25 C0 (by simp only [go_sem,seval,s24,k29])) rfl ?_;simp only [go_sem,s24];apply z;simp only [aL];cases hy55;refine ⟨by decide,?_⟩;simp only [go_sem,seval,fC u0,s24,k29,e14]
   ·obtain ⟨x73,h75,hy55⟩:=aA hy55;obtain ⟨x74,h76,hy55⟩:=aA hy55;refine dR [(1,0),(2,0),(3,0),(4,0),(5,0),(6,0),(7,0),(8,0),(9,0),(10,0),(11,0),(0,0),(12,0),(13,0),(14,1),(15,0)] 31 fun _ z=>?_;simp only [go_sem,seval,fC u0,s65,k57.hF,c70,e14];refine cB (FC x16 _ h75 _ _ _ (by simp only [go_sem])) rfl ?_;simp only [go_sem,seval,fC u0,e14];refine cB (aT ({ x25.2.1 with p_:=⟨(x25.2.1.p_.bG.set v8.f_.toNat { x26 with eH:=x25.1 })⟩ }:aD) x25.2.2 x73 135 a3.fQ _ h76 _ _ _ P0 F0 fp_x2 S_x25 C0 (by simp only [go_sem,seval,s24,k29])) rfl ?_;simp only [go_sem,s24];apply z;simp only [aL];cases hy55;refine ⟨by decide,?_⟩;simp only [go_sem,seval,fC u0,s24,k29,e14]
  ·intro E77 m78 e79 _;simp only [aL,aS];refine aN fun _ z=>?_;simp only [go_sem,seval,e79];apply z;refine ⟨c11,xH _,(i64.wrap (v7+1)),({ x25.2.1 with p_:=⟨(x25.2.1.p_.bG.set v8.f_.toNat { x26 with eH:=x25.1 })⟩ }:aD),y55,S_x25,hy10,?_⟩;simp only [go_sem,seval,s24,k29,e79]
 ·refine dQ ?_
  try simp only [bZ,bR,↓reduceIte]
  cases hy10;cases h;refine ⟨by simp,?_⟩;simp only [go_sem,c15];refine ⟨fp_x2,S_v8,_,_,Fr.to (q:=q) (p:=P0) ?_ u0 (by simp only [go_sem,e14]),?_⟩
  ·simp only [go_sem,e14]
  ·simp only [go_sem,hk_v8]
end Go.Proofs.YtncembphlfbgoaaGreatDoor.Abs
