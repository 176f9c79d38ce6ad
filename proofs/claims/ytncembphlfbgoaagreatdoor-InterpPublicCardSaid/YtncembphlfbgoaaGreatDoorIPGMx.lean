/- Lemmas of ours. -/
import Derived.Test.YtncembphlfbgoaaGreatDoorIPGMw0
namespace Go.Proofs.YtncembphlfbgoaaGreatDoor.Abs
open Go.RowKit Tryz
open IntKind (i64 u32 u64 u8)
set_option linter.unusedVariables false
set_option maxRecDepth 10000
def Cr (f:aD->aI->Int->Int->Option aI):Prop:=∀a0 a1 a2 a3 r,f a0 a1 a2 a3=some r->∀(q:Pa) (m:M) (vs:List V) (P0:Pa) (F0 fp0 S0 C0:V),vs.map V.weak1=[.ptr P0 0,.lit (.int .i64 a2),.lit (.int .i64 a3)]/\m.blk P0=some (oD F0 fp0 S0 C0 a0 a1)/\eL F0 fp0 S0 C0 m.hp a0->SC prog 60 vs q m (fun v Y=>v=.tup []/\Y=(m.set P0 (oD F0 fp0 S0 C0 a0 r)))
theorem Bw:Cr (qD):=by
 rintro a0 a1 a2 a3 r h q m vs P0 F0 fp0 S0 C0 ⟨hv,w0,t0⟩;refine SC.wv hv ?_;refine SC.ap w0 fun u0 l0=>?_
 try simp only [go_sem] at w0 l0
 refine eD func60 call60 ntmps60 results60 ?_;unfold qD at h;refine aL ?_;refine bH h (fun c1 h=>?_) (fun c1 h=>?_)
 ·refine eR fun _ z=>?_;simp only [go_sem,seval,c1,w0];apply z;simp only [];cases h;exact jS
 ·refine aU ?_;cases h;exact jS
def Ck (f:aD->aI->Bool->Int->Int->Option aI):Prop:=∀a0 a1 a2 a3 a4 r,f a0 a1 a2 a3 a4=some r->∀(q:Pa) (m:M) (vs:List V) (P0:Pa) (F0 fp0 S0 C0:V),vs.map V.weak1=[.ptr P0 0,.lit (.bool a2),.lit (.int .i64 a3),.lit (.int .i64 a4)]/\m.blk P0=some (oD F0 fp0 S0 C0 a0 a1)/\eL F0 fp0 S0 C0 m.hp a0->SC prog 29 vs q m (fun v Y=>v=.tup []/\Y=(m.set P0 (oD F0 fp0 S0 C0 a0 r)))
theorem aS:Ck (aX):=by
 rintro a0 a1 a2 a3 a4 r h q m vs P0 F0 fp0 S0 C0 ⟨hv,w0,t0⟩;refine SC.wv hv ?_;refine SC.ap w0 fun u0 l0=>?_
 try simp only [go_sem] at w0 l0
 refine eD func29 call29 ntmps29 results29 ?_;unfold aX at h;refine aL ?_;refine bH h (fun c1 h=>?_) (fun c1 h=>?_)
 ·obtain ⟨x2,h3,h⟩:=aA h;refine eR fun _ z=>?_;simp only [go_sem,seval,c1];refine SC.bA (Bw a0 a1 a3 a4 _ h3 _ _ _ P0 F0 fp0 S0 C0) ?_;simp only [go_sem,seval];apply z;simp only [];cases h;exact jS
 ·refine aU ?_;cases h;exact jS
def JN (f:cQ->Option Int):Prop:=∀a0 r,f a0=some r->∀(q:Pa) (m:M) (vs:List V),vs.map V.weak1=[.lit (.string (bs a0))]/\m.gl 0=.eptr [(cA bL.C cX)] 0 0->SC prog 53 vs q m (fun v Y=>v=.lit (.int .i64 r)/\Y=m)
theorem Bc (n:Nat):JN (uE n):=by
 rintro a0 r h q m vs ⟨hv,hg0⟩;refine SC.wv hv (eD func53 call53 ntmps53 results53 ?_);unfold uE at h;refine aL ?_;refine aF (aL ?_);refine bM ?_;obtain ⟨y3,j3,h⟩:=aA h;refine kX (fun c X Y=>∃v2,qQ a0 c v2=some y3/\X 0=.lit (.string (bs a0))/\X 5=.agg ((cA bL.C cX))/\X 6=.lit (.int .i64 v2)/\Y.gl=m.gl/\m.back q Y=m) n ⟨0,j3,?_⟩ ?_
 ·simp only [go_sem,seval,bK]
 rintro i1 c4 E5 m6 ⟨v2,j3,e7⟩ _
 rcases c4 with _ | c4
 ·cases j3
 rw [qQ] at j3;refine aL ?_;refine aF (bH j3 (fun c8 j3=>?_) (fun c8 j3=>?_))
 ·refine aU ?_
  refine aF (bM (aF ?_));obtain ⟨x9,h14,j3⟩:=aA j3;obtain ⟨f11,f12,f13⟩:=aZ h14;have f15:v2<5:=f12;obtain ⟨w16,d17⟩:=CA (f:=bL.C) (s:=2) (fun _ _=>rfl) f13;simp only [go_sem] at d17;refine aP fun _ z=>?_;simp only [go_sem,seval,f11,f15,d17,e7];apply z;refine aL ?_;refine bH j3 (fun c18 j3=>?_) (fun c18 j3=>?_)
  ·refine aL ?_;refine aO ?_
   try simp only [aT,bI]
   cases j3;simp only [Es] at h;cases h;exact jS
  ·refine aU ?_
   try simp only [aK,aQ]
   refine cH ?_;refine ⟨c4,xQ _,(i64.wrap (v2+1)),j3,?_⟩;simp only [go_sem,seval,bF,e7]
 ·refine dQ ?_
  try simp only [bZ,bR,↓reduceIte,aK]
  cases j3;simp only [GH] at h;refine aL ?_;refine aO ?_;cases h;exact jS
def HG (f:Int->Option Int):Prop:=∀a0 r,f a0=some r->∀(q:Pa) (m:M) (vs:List V),vs.map V.weak1=[.lit (.int .u32 a0)]->SC prog 54 vs q m (fun v Y=>v=.lit (.int .i64 r)/\Y=m)
theorem Gx:HG (vO):=by
 intro a0 r h q m vs hv;refine SC.wv hv (eD func54 call54 ntmps54 results54 ?_);unfold vO at h;refine aL ?_;refine aF (bM (aL ?_));refine bH h (fun c1 h=>?_) (fun c1 h=>?_)
 ·refine aL ?_;refine aO ?_
  try simp only [aT,bI]
  cases h;exact jS
 ·refine aL ?_;refine bH h (fun c2 h=>?_) (fun c2 h=>?_)
  ·refine aL ?_;refine aO ?_
   try simp only [aT,bI]
   cases h;exact jS
  ·refine aU ?_
   try simp only [aK,aQ]
   refine aL ?_;refine aO ?_;cases h;exact jS
def Bs (f:aD->aI->aB->Option (aD × aI)):Prop:=∀a0 a1 a2 r,f a0 a1 a2=some r->∀(q:Pa) (m:M) (vs:List V) (P0:Pa) (F0 fp0 S0 C0:V),vs.map V.weak1=[.ptr P0 0,.agg ((aB.C a2))]/\m.blk P0=some (oD F0 fp0 S0 C0 a0 a1)/\eL F0 fp0 S0 C0 m.hp a0/\m.gl 0=.eptr [(cA bL.C cX)] 0 0->SC prog 26 vs q m (fun v Y=>∃(F C:V) (h:Hp) (vr:Nat->Nat),v=.tup []/\Y=m.ck P0 (oD F fp0 S0 C r.1 r.2) h vr/\eL F fp0 S0 C h r.1)
theorem AO (n:Nat):Bs (nJ n):=by
 rintro a0 a1 a2 r h q m vs P0 F0 fp0 S0 C0 ⟨hv,w0,t0,hg0⟩;refine SC.wv hv ?_;refine SC.ap w0 fun u0 l0=>?_
 try simp only [go_sem] at w0 l0
 refine eD func26 call26 ntmps26 results26 ?_;unfold nJ at h;refine aL ?_;refine aF ?_;obtain ⟨x2,h3,h⟩:=aA h;refine aP fun _ z=>?_;simp only [go_sem,seval];refine SC.bA (aS a0 a1 (decide ((a2.aM.length:Int)<=64)) 136 a2.fR _ h3 _ _ _ P0 F0 fp0 S0 C0) ?_;simp only [go_sem,seval];apply z;refine aF (aL ?_);refine bM ?_;obtain ⟨y8,j8,h⟩:=aA h;refine kX (fun c X Y=>∃v5 v6 v7 F_v6,iV n a2 c v5 v6 v7=some y8/\X 0=.ptr P0 0/\X 3=.ptr (0::q) 0/\X 17=.list .none (a2.aM.map aB.C)/\X 18=.lit (.int .i64 (a2.aM.length:Int))/\X 19=.lit (.int .i64 v5)/\Y.blk P0=some (oD F_v6 fp0 S0 C0 v6 v7)/\eL F_v6 fp0 S0 C0 Y.hp v6/\Y.blk (0::q)=some ((aB.C a2))/\Y.gl=m.gl/\Fr q P0 m Y) n ⟨0,a0,x2,F0,j8,?_⟩ ?_
 ·simp only [go_sem,seval,gZ u0,t0]
 rintro i4 c9 E10 m11 ⟨v5,v6,v7,F_v6,j8,e12⟩ _
 rcases c9 with _ | c9
 ·cases j8
 rw [iV] at j8;have bv6:eL F_v6 fp0 S0 C0 m11.hp v6:=by simp only [e12]
 refine aL ?_;refine aF (bH j8 (fun c13 j8=>?_) (fun c13 j8=>?_))
 ·refine aU ?_
  refine aF (bM (aF ?_));obtain ⟨x14,h19,j8⟩:=aA j8;obtain ⟨f16,f17,f18⟩:=aZ h19;refine cH ?_;refine aF ?_;have s21:=(eL.funcsR bv6);obtain ⟨x20,h22,j8⟩:=aA j8;refine eC (o0 [0,1,2,3,4,5,6,7,8,9,10,11]) 17 fun _ z=>?_;simp only [go_sem,seval,gZ u0,s21.shr,e12];refine vN (vP n v6.p_ x14.cP _ h22 _ _ _ F_v6 fp0 S0 C0 v6 (by simp only [go_sem,bv6,s21.shr])) rfl ?_;simp only [go_sem,seval];apply z;refine aF ?_;obtain ⟨y23,j23,j8⟩:=aA j8;refine fX 29 (fun X Y=>X 0=.ptr P0 0/\X 3=.ptr (0::q) 0/\X 5=.ptr (3::i4::13::q) 0/\X 17=.list .none (a2.aM.map aB.C)/\X 18=.lit (.int .i64 (a2.aM.length:Int))/\X 19=.lit (.int .i64 v5)/\Y.blk P0=some (oD F_v6 fp0 S0 C0 v6 y23)/\eL F_v6 fp0 S0 C0 Y.hp v6/\Y.blk (3::i4::13::q)=some ((aB.C x14))/\Y.blk (0::q)=some ((aB.C a2))/\Y.gl=m.gl/\Fr q P0 m Y/\Y.hp=m11.hp) ?_ ?_
  ·rcases dD j23 with ⟨c24,j23⟩ | ⟨c24,j23⟩
   ·obtain ⟨x25,h27,j23⟩:=aA j23;obtain ⟨x26,h28,j23⟩:=aA j23;refine eC [(1,0),(2,0),(3,0),(4,0),(5,0),(6,0),(0,0),(7,0),(8,0),(9,0),(10,1),(11,0)] 29 fun _ z=>?_;simp only [go_sem,seval,c24];refine sF (Bc n x14.cP _ h27 _ _ _) ?_;simp only [go_sem,seval,e12];refine sF (aS v6 v7 (x25 == 0) 131 x14.fR _ h28 _ _ _ P0 F_v6 fp0 S0 C0) ?_;simp only [go_sem];apply z;simp only [aK];cases j23;exact jD
   ·obtain ⟨x29,h30,j23⟩:=aA j23;refine eC [(1,0),(2,0),(3,0),(4,0),(5,0),(6,0),(0,0),(7,0),(8,0),(9,0),(10,1),(11,0)] 29 fun _ z=>?_;simp only [go_sem,seval,c24,e12];refine sF (aS v6 v7 false 131 x14.fR _ h30 _ _ _ P0 F_v6 fp0 S0 C0) ?_;simp only [go_sem];apply z;simp only [aK];cases j23;exact jD
  ·intro E31 m32 e33 _;simp only [aK];obtain ⟨x34,h38,j8⟩:=aA j8;obtain ⟨f39,j8⟩:=bP j8;obtain ⟨R35,R35R,R35l,R35a⟩:=eL.focF bv6 f39;obtain ⟨f40,j8⟩:=bP j8;refine uU fun f41=>?_;have f36:m11.hp (46::i4::13::q)=none:=by have:=f41 46 (by omega);simpa only [go_sem,seval,t0,bv6,c13,e33] using this
   have k37:eL (.vec (46::i4::13::q) 6 (v6.p_.bD.length+1)) fp0 S0 C0 (EP m11.hp F_v6 (46::i4::13::q) (R35.flatten++[.lit (.string (bs x14.cP)),.lit (.bool ((vT .u32 x14.mM 1) != 0)),.lit (.int .i64 x34),.lit (.int .i64 0),.nilv,.nilv])) ({ v6 with p_:=⟨(v6.p_.bD++[(aR.mk x14.cP ((vT .u32 x14.mM 1) != 0) x34 0 [] [])])⟩ }:aD):=R35a (f:=(aR.mk x14.cP ((vT .u32 x14.mM 1) != 0) x34 0 [] [])) f36 rfl rfl rfl rfl rfl rfl rfl;refine eC [(12,0),(13,0),(14,0),(1,0),(2,0),(3,0),(4,0),(5,1),(6,0),(7,1),(8,0),(9,1),(10,0),(11,0),(15,0),(16,0),(17,0),(0,0),(18,0),(19,0),(20,0),(21,0)] 51 fun _ z=>?_;simp only [go_sem,seval,e33];refine sF (Gx x14.mM _ h38 _ _ _) ?_;simp only [go_sem,seval,s21.ld,e33];refine EM (sz:=6) (rows:=R35) (by (try simp only [go_sem,e33]);have hR:=R35R;exact hR) Ku zc44 by44 (by decide) (by decide) rfl (by simp only [go_sem,seval]) (by simp only [go_sem,seval]) (by first | omega | (simp only [jC,lA];omega)) ?_;simp only [go_sem,seval,Fy,List.flatten_nil,R35l,e33];apply z;simp only [aK,aQ];refine cH ?_;refine ⟨c9,xQ _,(i64.wrap (v5+1)),({ v6 with p_:=⟨(v6.p_.bD++[(aR.mk x14.cP ((vT .u32 x14.mM 1) != 0) x34 0 [] [])])⟩ }:aD),y23,(.vec (46::i4::13::q) 6 (v6.p_.bD.length+1)),j8,?_⟩;simp only [go_sem,seval,gZ u0,k37,e33]
 ·refine dQ ?_
  try simp only [bZ,bR,↓reduceIte,aK]
  cases j8;obtain ⟨⟨f44,f45⟩,h⟩:=bP h;refine uU fun f46=>?_;have f42:m11.hp (18::q)=none:=by have:=f46 18 (by omega);simpa only [go_sem,seval,t0,bv6,c13,e12] using this
  have k43:eL F_v6 fp0 S0 (.vec (18::q) 1 a2.aM.length) (sH m11.hp (18::q) (List.replicate a2.aM.length [V.nilv]).flatten) ({ v6 with cK:=(List.replicate a2.aM.length []) }:aD):=eL.mkCalls (n:=a2.aM.length) bv6 f42 rfl rfl rfl rfl;refine eR fun _ z=>?_;simp only [go_sem,seval,c13,f44,f45,e12];apply z;simp only [];cases h;refine ⟨by simp,?_⟩;simp only [go_sem,qH];refine ⟨F_v6,(.vec (18::q) 1 a2.aM.length),_,_,Fr.to (q:=q) (p:=P0) ?_ u0 (by simp only [go_sem,seval]),?_⟩
  ·simp only [go_sem,e12]
  ·simp only [go_sem,k43]
def Bx (f:aD->aI->Int->Option (aD × aI)):Prop:=∀a0 a1 a2 r,f a0 a1 a2=some r->∀(q:Pa) (m:M) (vs:List V) (P0:Pa) (F0 fp0 S0 C0:V),vs.map V.weak1=[.ptr P0 0,.lit (.int .i64 a2)]/\m.blk P0=some (oD F0 fp0 S0 C0 a0 a1)/\eL F0 fp0 S0 C0 m.hp a0->SC prog 55 vs q m (fun v Y=>∃(fp S:V) (h:Hp) (vr:Nat->Nat),v=.tup []/\Y=m.ck P0 (oD F0 fp S C0 r.1 r.2) h vr/\eL F0 fp S C0 h r.1)
theorem tT (n:Nat):Bx (kP n):=by
 rintro a0 a1 a2 r h q m vs P0 F0 fp0 S0 C0 ⟨hv,w0,t0⟩;refine SC.wv hv ?_;refine SC.ap w0 fun u0 l0=>?_
 try simp only [go_sem] at w0 l0
 refine eD func55 call55 ntmps55 results55 ?_;unfold kP at h;refine aF ?_;have s6:=(eL.funcsR t0);obtain ⟨x1,h10,h⟩:=aA h;obtain ⟨f7,f8,f9⟩:=aZ h10;obtain ⟨p2,g2,n2,k2⟩:=eL.foc t0 f9;obtain ⟨z2,s11,s12,s13,s14,s15,s16,s17⟩:=k2.rows;have k3:eL F0 (.pp (oL F0) (a2.toNat*6)) S0 C0 m.hp ({ a0 with f_:=a2 }:aD):=eL.setFn t0 (by assumption) rfl rfl rfl rfl;have k4:eL F0 (.pp (oL F0) (a2.toNat*6)) .nilv C0 m.hp ({ a0 with f_:=a2,bJ:=[] }:aD):=eL.nilS k3 rfl rfl rfl rfl;have k5:eL F0 (.pp (oL F0) (a2.toNat*6)) .nilv C0 m.hp ({ a0 with f_:=a2,bJ:=[],gB:=a2 }:aD):=eL.same k4 rfl rfl rfl rfl;refine aP fun _ z=>?_;simp only [go_sem,seval,s6.ld,sZ.ix (P:=prog) (k:=.i64) (eL.funcsR t0) Ku f7 f8,w0];apply z;refine tI (id:=P0) (off:=2) (cs:=[F0,.pp (oL F0) (a2.toNat*6),.list .self [],C0,.lit (.int .i64 ({ a0 with f_:=a2,bJ:=[],gB:=a2 }:aD).gB),.lit (.int .i64 a1.e_),.lit (.int .i64 a1.Av)]) (by simp only [go_sem,seval]) rfl ?_;refine aF ?_;obtain ⟨p18,g18,n18,k18⟩:=eL.foc k5 f9;obtain ⟨z18,s20,s21,s22,s23,s24,s25,s26⟩:=k18.rows;refine aP fun _ z=>?_;simp only [go_sem,seval,s14,k2.hF];apply z;refine bM ?_;obtain ⟨y30,j30,h⟩:=aA h;refine kX (fun c X Y=>∃v28 v29 S_v29,gY x1 c v28 v29=some y30/\X 0=.ptr P0 0/\X 28=.lit (.int .i64 x1.aW)/\X 29=.lit (.int .i64 v28)/\Y.blk P0=some (oD F0 (.pp (oL F0) (a2.toNat*6)) S_v29 C0 v29 a1)/\eL F0 (.pp (oL F0) (a2.toNat*6)) S_v29 C0 Y.hp v29/\Y.gl=m.gl/\Fr q P0 m Y) n ⟨0,({ a0 with f_:=a2,bJ:=[],gB:=a2 }:aD),.nilv,j30,?_⟩ ?_
 ·simp only [go_sem,seval,k5]
 rintro i27 c31 E32 m33 ⟨v28,v29,S_v29,j30,e34⟩ _
 rcases c31 with _ | c31
 ·cases j30
 rw [gY] at j30;have bv29:eL F0 (.pp (oL F0) (a2.toNat*6)) S_v29 C0 m33.hp v29:=by simp only [e34]
 refine aL ?_;refine aF (bH j30 (fun c35 j30=>?_) (fun c35 j30=>?_))
 ·refine aU ?_
  refine aF (bM (aL ?_));have s38:=(eL.scopeS bv29);obtain ⟨f39,j30⟩:=bP j30;refine uU fun f40=>?_;have f36:m33.hp (10::i27::28::q)=none:=by have:=f40 10 (by omega);simpa only [go_sem,seval,t0,k3,k4,k5,bv29,c35,e34] using this
  have k37:eL F0 (.pp (oL F0) (a2.toNat*6)) (.vec (10::i27::28::q) 1 (v29.bJ.length+1)) C0 (EP m33.hp S_v29 (10::i27::28::q) ((v29.bJ.map (cI .i64)).flatten++[.lit (.int .i64 v28)])) ({ v29 with bJ:=(v29.bJ++[v28]) }:aD):=eL.appS bv29 f36 v28 rfl rfl rfl rfl;refine eR fun _ z=>?_;simp only [go_sem,seval,s38.ld,e34];refine FX (sz:=1) (rows:=(v29.bJ.map (cI .i64))) (by (try simp only [go_sem,seval,t0,k3,k4,k5,bv29,c35,k37,e34]);have hR:=(eL.scopeR bv29);exact hR) Qx zc3 by3 (by decide) (by decide) rfl (by simp only [go_sem]) (by simp only [go_sem,seval]) (by first | omega | (simp only [sY,jC,lA];omega)) ?_;simp only [go_sem,seval,Fy,List.flatten_nil,e34];apply z;simp only [aK,aQ];refine cH ?_;refine ⟨c31,xQ _,(i64.wrap (v28+1)),({ v29 with bJ:=(v29.bJ++[v28]) }:aD),(.vec (10::i27::28::q) 1 (v29.bJ.length+1)),j30,?_⟩;simp only [go_sem,seval,k37,e34]
 ·refine dQ ?_
  try simp only [bZ,bR,↓reduceIte]
  cases j30;cases h;refine ⟨by simp,?_⟩;simp only [go_sem,c35];refine ⟨(.pp (oL F0) (a2.toNat*6)),S_v29,_,_,Fr.to (q:=q) (p:=P0) ?_ u0 (by simp only [go_sem,e34]),?_⟩
  ·simp only [go_sem,e34]
  ·simp only [go_sem,bv29]
def Ii (f:Int->Option Bool):Prop:=∀a0 r,f a0=some r->∀(q:Pa) (m:M) (vs:List V),vs.map V.weak1=[.lit (.int .i64 a0)]->SC prog 87 vs q m (fun v Y=>v=.lit (.bool r)/\Y=m)
theorem DN:Ii (uR):=by
 intro a0 r h q m vs hv;refine SC.wv hv (eD func87 call87 ntmps87 results87 ?_);unfold uR at h;refine aL ?_;refine aF ?_;obtain ⟨y1,j1,h⟩:=aA h;refine fX 21 (fun X Y=>X 2=.lit (.bool y1)/\Y.gl=m.gl/\m.back q Y=m) ?_ ?_
 ·rcases dD j1 with ⟨c2,j1⟩ | ⟨c2,j1⟩
  ·
   rcases dD j1 with ⟨c3,j1⟩ | ⟨c3,j1⟩
   ·refine cH ?_;cases j1;exact jD
   ·
    rcases dD j1 with ⟨c4,j1⟩ | ⟨c4,j1⟩
    ·
     rcases dD j1 with ⟨c5,j1⟩ | ⟨c5,j1⟩
     ·refine aP fun _ z=>?_;simp only [go_sem,seval,c2,c3,c4,c5,(by decide:4 ≠ 0)];apply z;cases j1;exact jD
     ·refine cH ?_;cases j1;exact jD
    ·refine cH ?_;cases j1;exact jD
  ·
   rcases dD j1 with ⟨c6,j1⟩ | ⟨c6,j1⟩
   ·
    rcases dD j1 with ⟨c7,j1⟩ | ⟨c7,j1⟩
    ·refine aP fun _ z=>?_;simp only [go_sem,seval,c2,c6,c7,(by decide:4 ≠ 0)];apply z;cases j1;exact jD
    ·refine cH ?_;cases j1;exact jD
   ·refine cH ?_;cases j1;exact jD
 ·intro E8 m9 e10 _;refine aO ?_;cases h;exact jS
def Cq (f:aD->aI->cQ->Option Int):Prop:=∀a0 a1 a2 r,f a0 a1 a2=some r->∀(q:Pa) (m:M) (vs:List V) (P0:Pa) (F0 fp0 S0 C0:V),vs.map V.weak1=[.ptr P0 0,.lit (.string (bs a2))]/\m.blk P0=some (oD F0 fp0 S0 C0 a0 a1)/\eL F0 fp0 S0 C0 m.hp a0->SC prog 139 vs q m (fun v Y=>v=.lit (.int .i64 r)/\Y=m)
theorem uN (n:Nat):Cq (lI n):=by
 rintro a0 a1 a2 r h q m vs P0 F0 fp0 S0 C0 ⟨hv,w0,t0⟩;refine SC.wv hv ?_;refine SC.apart w0 fun u0=>?_
 try simp only [go_sem] at w0
 refine eD func139 call139 ntmps139 results139 ?_;unfold lI at h;refine aL ?_;refine aF (aF ?_);have s1:=(eL.scopeS t0);refine aP fun _ z=>?_;simp only [go_sem,seval,s1.slen,s1.ld,w0];apply z;refine bM ?_;obtain ⟨y4,j4,h⟩:=aA h;refine kX (fun c X Y=>∃v3,jK a0 a2 c v3=some y4/\X 0=.ptr P0 0/\X 1=.lit (.string (bs a2))/\X 5=.lit (.int .i64 v3)/\Y.blk P0=some (oD F0 fp0 S0 C0 a0 a1)/\Y.gl=m.gl/\Y.hp=m.hp/\m.back q Y=m) n ⟨(i64.wrap ((a0.bJ.length:Int) - 1)),j4,?_⟩ ?_
 ·simp only [go_sem,seval,bK,w0]
 rintro i2 c5 E6 m7 ⟨v3,j4,e8⟩ _
 rcases c5 with _ | c5
 ·cases j4
 rw [jK] at j4;refine aF (aL ?_);refine bH j4 (fun c9 j4=>?_) (fun c9 j4=>?_)
 ·refine aU ?_
  refine aF (bM (aF ?_));obtain ⟨x10,h18,j4⟩:=aA j4;obtain ⟨f15,f16,f17⟩:=aZ h18;obtain ⟨p11,g11,n11,k11⟩:=eL.foc t0 f17;obtain ⟨z11,s19,s20,s21,s22,s23,s24,s25⟩:=k11.rows;have s26:=(eL.funcsR t0);have s12:=eL.fpEq t0 f15;have s27:eL F0 (.pp (oL F0) (a0.f_.toNat*6)) S0 C0 m.hp a0:=by rw [←s12];exact t0
  have s28:=(fD.shC k11.vars);obtain ⟨x13,h32,j4⟩:=aA j4;obtain ⟨f29,f30,f31⟩:=aZ h32;obtain ⟨H35,rs_H35,s33,s34⟩:=fD.readI' (eL.scopeR t0) f31;obtain ⟨x14,h39,j4⟩:=aA j4;obtain ⟨f36,f37,f38⟩:=aZ h39;obtain ⟨H44,rs_H44,s40,s41,s42,s43⟩:=fD.readVar k11.vars f38;refine eC (o0 [0,1,2,3,4,5,6,7,8,9,10,11,12,13,14,15,16,17,18]) 21 fun _ z=>?_;simp only [go_sem,seval,s1.ld,s23,k11.hF,s12,f29,sZ.ix (P:=prog) (k:=.i64) (eL.scopeS t0) Qx f29 f30,s33,s34,sZ.ix (P:=prog) (k:=.i64) (fD.shC k11.vars) GX f36 f37,s40,s41,e8];apply z;refine bH j4 (fun c45 j4=>?_) (fun c45 j4=>?_)
  ·refine sW ?_;simp only [go_sem,seval,s1.ld,s12,sZ.ix (P:=prog) (k:=.i64) (eL.scopeS t0) Qx f29 f30,s33,s34,c45,e8];refine aO ?_
   try simp only [aT,bI]
   cases j4;simp only [Es] at h;cases h;exact jS
  ·refine aU ?_
   try simp only [aK,aQ]
   refine cH ?_;refine ⟨c5,xQ _,(i64.wrap (v3 - 1)),j4,?_⟩;simp only [go_sem,seval,s12,e8]
 ·refine dQ ?_
  try simp only [bZ,bR,↓reduceIte,aK]
  cases j4;simp only [GH] at h;refine aL ?_;refine aO ?_;cases h;exact jS
def Ad (f:aD->aI->bB->Int->Option (Int × aD × aI)):Prop:=∀a0 a1 a2 a3 r,f a0 a1 a2 a3=some r->∀(q:Pa) (m:M) (vs:List V) (P0:Pa) (F0 fp0 S0 C0:V),vs.map V.weak1=[.ptr P0 0,.agg ((bB.C a2)),.lit (.int .i64 a3)]/\m.blk P0=some (oD F0 fp0 S0 C0 a0 a1)/\eL F0 fp0 S0 C0 m.hp a0->SC prog 88 vs q m (fun v Y=>∃(S:V) (h:Hp) (vr:Nat->Nat),v=.lit (.int .i64 r.1)/\Y=m.ck P0 (oD F0 fp0 S C0 r.2.1 r.2.2) h vr/\eL F0 fp0 S C0 h r.2.1)
theorem gJ (n:Nat):Ad (eI n):=by
 rintro a0 a1 a2 a3 r h q m vs P0 F0 fp0 S0 C0 ⟨hv,w0,t0⟩;refine SC.wv hv ?_;refine SC.ap w0 fun u0 l0=>?_
 try simp only [go_sem] at w0 l0
 refine eD func88 call88 ntmps88 results88 ?_;unfold eI at h;refine aL ?_;refine aF ?_;obtain ⟨x2,h4,h⟩:=aA h;obtain ⟨x3,h5,h⟩:=aA h;refine aP fun _ z=>?_;simp only [go_sem,seval];refine SC.bA (uN n a0 a1 a2.jX _ h4 _ _ _ P0 F0 fp0 S0 C0) ?_;simp only [go_sem,seval];refine SC.bA (aS a0 a1 (decide (x2<0)) 131 a3 _ h5 _ _ _ P0 F0 fp0 S0 C0) ?_;simp only [go_sem,seval];apply z;refine aF ?_;obtain ⟨x6,h13,h⟩:=aA h;obtain ⟨f10,f11,f12⟩:=aZ h13;obtain ⟨p7,g7,n7,k7⟩:=eL.foc t0 f12;obtain ⟨z7,s14,s15,s16,s17,s18,s19,s20⟩:=k7.rows;have s21:=(eL.funcsR t0);have s8:=eL.fpEq t0 f10;have s22:eL F0 (.pp (oL F0) (a0.f_.toNat*6)) S0 C0 m.hp a0:=by rw [←s8];exact t0
 have s23:=(fD.shC k7.vars);obtain ⟨x9,h24,h⟩:=aA h;refine aP fun _ z=>?_;simp only [go_sem,seval,s18,k7.hF,s8,s23.slen];refine SC.bA (aS a0 x3 (decide ((x6.aV.length:Int)<250)) 136 a3 _ h24 _ _ _ P0 F0 fp0 S0 C0) ?_;simp only [go_sem,seval,s8];apply z;refine aF (aL ?_);refine bH h (fun c25 h=>?_) (fun c25 h=>?_)
 ·refine aL ?_;refine aO ?_
  try simp only [aT]
  cases h;refine ⟨by simp,?_⟩;simp only [go_sem,seval,s8];refine ⟨S0,_,_,Fr.to (q:=q) (p:=P0) ?_ u0 (by simp only [go_sem,seval]),?_⟩
  ·simp only [go_sem]
  ·simp only [go_sem,s22]
 ·refine aU ?_
  refine sW ?_;simp only [go_sem,seval,s18,k7.hF,s23.slen,c25];refine aF ?_;obtain ⟨f29,h⟩:=bP h;refine uU fun f30=>?_;have f26:m.hp (49::q)=none:=by have:=f30 49 (by omega);simpa only [go_sem,seval,t0,c25] using this
  have k27:eL F0 fp0 S0 C0 (sH (EP m.hp p7 (49::q) ((x6.aV.map bB.C).flatten++[.lit (.string (bs a2.jX)),.lit (.int .i64 a2.bX),.lit (.int .i64 a2.jB)])) (oL F0) (n7.set (a0.f_.toNat*6+4) (.vec (49::q) 3 (x6.aV.length+1)))) ({ a0 with p_:=⟨(a0.p_.bD.set a0.f_.toNat { x6 with aV:=(x6.aV++[a2]) })⟩ }:aD):=GF.appVars k7 f26 a2 rfl rfl rfl rfl;have k28:eL F0 (.pp (oL F0) (a0.f_.toNat*6)) S0 C0 (sH (EP m.hp p7 (49::q) ((x6.aV.map bB.C).flatten++[.lit (.string (bs a2.jX)),.lit (.int .i64 a2.bX),.lit (.int .i64 a2.jB)])) (oL F0) (n7.set (a0.f_.toNat*6+4) (.vec (49::q) 3 (x6.aV.length+1)))) ({ a0 with p_:=⟨(a0.p_.bD.set a0.f_.toNat { x6 with aV:=(x6.aV++[a2]) })⟩ }:aD):=by rw [←s8];exact k27
  refine eC [(4,0),(5,0),(6,0),(7,0),(8,0),(9,0),(10,0),(11,0),(12,0),(13,0),(0,0),(1,0),(2,0),(3,1),(14,0),(15,0),(16,0)] 53 fun _ z=>?_;simp only [go_sem,seval,eO u0,s18,k7.hF];refine EM (sz:=3) (rows:=(x6.aV.map bB.C)) (by (try simp only [go_sem]);have hR:=k7.vars;exact hR) GX zc66 by66 (by decide) (by decide) rfl (by simp only [go_sem,seval]) (by simp only [go_sem,seval]) (by first | omega | (simp only [sY,jC,lA];omega)) ?_;simp only [go_sem,seval,Fy,List.flatten_nil,qH,GF.apF k7 f26,k7.len4];apply z;refine aF ?_;have s34:=(eL.scopeS k27);obtain ⟨f35,h⟩:=bP h;refine uU fun f36=>?_;have f31:(sH (EP m.hp p7 (49::q) ((x6.aV.map bB.C).flatten++[.lit (.string (bs a2.jX)),.lit (.int .i64 a2.bX),.lit (.int .i64 a2.jB)])) (oL F0) (n7.set (a0.f_.toNat*6+4) (.vec (49::q) 3 (x6.aV.length+1)))) (60::q)=none:=by have:=f36 60 (by omega);simpa only [go_sem,seval,t0,c25,k27,k28] using this
  have k32:eL F0 fp0 (.vec (60::q) 1 (a0.bJ.length+1)) C0 (EP (sH (EP m.hp p7 (49::q) ((x6.aV.map bB.C).flatten++[.lit (.string (bs a2.jX)),.lit (.int .i64 a2.bX),.lit (.int .i64 a2.jB)])) (oL F0) (n7.set (a0.f_.toNat*6+4) (.vec (49::q) 3 (x6.aV.length+1)))) S0 (60::q) ((a0.bJ.map (cI .i64)).flatten++[.lit (.int .i64 (x6.aV.length:Int))])) ({ a0 with p_:=⟨(a0.p_.bD.set a0.f_.toNat { x6 with aV:=(x6.aV++[a2]) })⟩,bJ:=(a0.bJ++[(x6.aV.length:Int)]) }:aD):=eL.appS k27 f31 (x6.aV.length:Int) rfl rfl rfl rfl;have k33:eL F0 (.pp (oL F0) (a0.f_.toNat*6)) (.vec (60::q) 1 (a0.bJ.length+1)) C0 (EP (sH (EP m.hp p7 (49::q) ((x6.aV.map bB.C).flatten++[.lit (.string (bs a2.jX)),.lit (.int .i64 a2.bX),.lit (.int .i64 a2.jB)])) (oL F0) (n7.set (a0.f_.toNat*6+4) (.vec (49::q) 3 (x6.aV.length+1)))) S0 (60::q) ((a0.bJ.map (cI .i64)).flatten++[.lit (.int .i64 (x6.aV.length:Int))])) ({ a0 with p_:=⟨(a0.p_.bD.set a0.f_.toNat { x6 with aV:=(x6.aV++[a2]) })⟩,bJ:=(a0.bJ++[(x6.aV.length:Int)]) }:aD):=by rw [←s8];exact k32
  refine aP fun _ z=>?_;simp only [go_sem,seval,s34.ld];refine FX (sz:=1) (rows:=(a0.bJ.map (cI .i64))) (by (try simp only [go_sem]);have hR:=(eL.scopeR k27);exact hR) Qx zc3 by3 (by decide) (by decide) rfl (by simp only [go_sem]) (by simp only [go_sem,seval]) (by first | omega | (simp only [sY,jC,lA];omega)) ?_;simp only [go_sem,seval,Fy,List.flatten_nil];apply z;refine aL ?_;refine aO ?_;cases h;refine ⟨by simp,?_⟩;simp only [go_sem,seval,s8];refine ⟨(.vec (60::q) 1 (a0.bJ.length+1)),_,_,Fr.to (q:=q) (p:=P0) ?_ u0 (by simp only [go_sem,seval]),?_⟩
  ·simp only [go_sem]
  ·simp only [go_sem,k33]
def AN (f:aD->aI->(List aB)->Option (aD × aI)):Prop:=∀a0 a1 a2 r,f a0 a1 a2=some r->∀(q:Pa) (m:M) (vs:List V) (P0:Pa) (F0 fp0 S0 C0:V),vs.map V.weak1=[.ptr P0 0,.list .none (a2.map aB.C)]/\m.blk P0=some (oD F0 fp0 S0 C0 a0 a1)/\eL F0 fp0 S0 C0 m.hp a0->SC prog 56 vs q m (fun v Y=>∃(S:V) (h:Hp) (vr:Nat->Nat),v=.tup []/\Y=m.ck P0 (oD F0 fp0 S C0 r.1 r.2) h vr/\eL F0 fp0 S C0 h r.1)
theorem zY (n:Nat):AN (pE n):=by
 rintro a0 a1 a2 r h q m vs P0 F0 fp0 S0 C0 ⟨hv,w0,t0⟩;refine SC.wv hv ?_;refine SC.ap w0 fun u0 l0=>?_
 try simp only [go_sem] at w0 l0
 refine eD func56 call56 ntmps56 results56 ?_;unfold pE at h;refine aF (aL ?_);refine bM ?_;obtain ⟨y5,j5,h⟩:=aA h;refine kX (fun c X Y=>∃v2 v3 v4 S_v3,iL n a2 c v2 v3 v4=some y5/\X 0=.ptr P0 0/\X 7=.list .none (a2.map aB.C)/\X 8=.lit (.int .i64 (a2.length:Int))/\X 9=.lit (.int .i64 v2)/\Y.blk P0=some (oD F0 fp0 S_v3 C0 v3 v4)/\eL F0 fp0 S_v3 C0 Y.hp v3/\Y.gl=m.gl/\Fr q P0 m Y) n ⟨0,a0,a1,S0,j5,?_⟩ ?_
 ·simp only [go_sem,seval,t0,w0]
 rintro i1 c6 E7 m8 ⟨v2,v3,v4,S_v3,j5,e9⟩ _
 rcases c6 with _ | c6
 ·cases j5
 rw [iL] at j5;have bv3:eL F0 fp0 S_v3 C0 m8.hp v3:=by simp only [e9]
 refine aL ?_;refine aF (bH j5 (fun c10 j5=>?_) (fun c10 j5=>?_))
 ·refine aU ?_
  refine aF ?_;obtain ⟨y11,j11,j5⟩:=aA j5;refine fX 42 (fun X Y=>∃(S_y11_1:V),X 0=.ptr P0 0/\X 7=.list .none (a2.map aB.C)/\X 8=.lit (.int .i64 (a2.length:Int))/\X 9=.lit (.int .i64 v2)/\Y.blk P0=some (oD F0 fp0 S_y11_1 C0 y11.1 y11.2)/\eL F0 fp0 S_y11_1 C0 Y.hp y11.1/\Y.gl=m.gl/\Fr q P0 m Y) ?_ ?_
  ·refine bM (aF ?_);obtain ⟨x12,h17,j11⟩:=aA j11;obtain ⟨f14,f15,f16⟩:=aZ h17;refine cH ?_;refine aL ?_;refine aF (aF ?_);obtain ⟨y19,j19,j11⟩:=aA j11;refine fX 22 (fun X Y=>X 0=.ptr P0 0/\X 5=.ptr (3::i1::3::q) 0/\X 6=.ptr (11::i1::3::q) 0/\X 7=.list .none (a2.map aB.C)/\X 8=.lit (.int .i64 (a2.length:Int))/\X 9=.lit (.int .i64 v2)/\X 27=.lit (.bool y19)/\Y.blk P0=some (oD F0 fp0 S_v3 C0 v3 v4)/\eL F0 fp0 S_v3 C0 Y.hp v3/\Y.blk (3::i1::3::q)=some ((aB.C x12))/\Y.blk (11::i1::3::q)=some ((bB.C (bB.mk x12.cP (i64.wrap x12.mM) 0)))/\Y.gl=m.gl/\Fr q P0 m Y/\Y.hp=m8.hp) ?_ ?_
   ·rcases dD j19 with ⟨c20,j19⟩ | ⟨c20,j19⟩
    ·refine aP fun _ z=>?_;simp only [go_sem,seval,c20];apply z;cases j19;exact jD
    ·refine aP fun _ z=>?_;simp only [go_sem,seval,c20];apply z;cases j19;exact jD
   ·intro E21 m22 e23 _;refine bH j11 (fun c24 j11=>?_) (fun c24 j11=>?_)
    ·refine aF ?_;obtain ⟨x25,h29,j11⟩:=aA j11;obtain ⟨f26,f27,f28⟩:=aZ h29;have f30:x12.aM[0]? = some x25:=f28;refine cH ?_;obtain ⟨x31,h33,j11⟩:=aA j11;obtain ⟨x32,h34,j11⟩:=aA j11;refine eC [(1,0),(2,0),(3,0),(0,0),(4,0),(5,1),(6,0)] 37 fun _ z=>?_;simp only [go_sem,seval,e23];refine sF (DN (i64.wrap x25.mM) _ h33 _ _ _) ?_;simp only [go_sem,seval,e23];refine sF (aS v3 v4 x31 136 x12.fR _ h34 _ _ _ P0 F0 fp0 S_v3 C0) ?_;simp only [go_sem];apply z;simp only [aK];obtain ⟨x35,h36,j11⟩:=aA j11;refine eR fun _ z=>?_;simp only [go_sem,seval,gZ u0,e23];refine SC.mono (gJ n v3 x32 (bB.mk x12.cP (i64.wrap x12.mM) (i64.wrap x25.mM)) x12.fR _ h36 _ _ _ P0 F0 fp0 S_v3 C0 (by simp only [go_sem,seval,bv3,e23])) ?_;rintro _ _ ⟨S_x35,h_x35,vr_x35,rfl,rfl,hk_x35⟩;simp only [go_sem,seval];apply z;simp only [aK,aQ];cases j11;refine ⟨by decide,S_x35,?_⟩;simp only [go_sem,seval,hk_x35,e23]
    ·refine aU ?_
     try simp only [aK]
     obtain ⟨x37,h38,j11⟩:=aA j11;refine eR fun _ z=>?_;simp only [go_sem,seval,e23];refine SC.mono (gJ n v3 v4 (bB.mk x12.cP (i64.wrap x12.mM) 0) x12.fR _ h38 _ _ _ P0 F0 fp0 S_v3 C0 (by simp only [go_sem,bv3,e23])) ?_;rintro _ _ ⟨S_x37,h_x37,vr_x37,rfl,rfl,hk_x37⟩;simp only [go_sem,seval];apply z;simp only [aK,aQ];cases j11;refine ⟨by decide,S_x37,?_⟩;simp only [go_sem,seval,hk_x37,e23]
  ·rintro E39 m40 ⟨S_y11_1,e41⟩ _;simp only [aK];have hk_y11_1:eL F0 fp0 S_y11_1 C0 m40.hp y11.1:=by simp only [e41]
   refine cH ?_;refine ⟨c6,xQ _,(i64.wrap (v2+1)),y11.1,y11.2,S_y11_1,j5,?_⟩;simp only [go_sem,seval,hk_y11_1,e41]
 ·refine dQ ?_
  try simp only [bZ,bR,↓reduceIte,aK]
  cases j5;obtain ⟨x42,h50,h⟩:=aA h;obtain ⟨f47,f48,f49⟩:=aZ h50;obtain ⟨p43,g43,n43,k43⟩:=eL.foc bv3 f49;obtain ⟨z43,s51,s52,s53,s54,s55,s56,s57⟩:=k43.rows;have s58:=(eL.funcsR bv3);have s44:=eL.fpEq bv3 f47;have s59:eL F0 (.pp (oL F0) (v3.f_.toNat*6)) S_v3 C0 m8.hp v3:=by rw [←s44];exact bv3
  have s60:=(fD.shC k43.vars);have k45:eL F0 fp0 S_v3 C0 (sH m8.hp (oL F0) (n43.set (v3.f_.toNat*6+3) (.lit (.int .i64 (x42.aV.length:Int))))) ({ v3 with p_:=⟨(v3.p_.bD.set v3.f_.toNat { x42 with aW:=(x42.aV.length:Int) })⟩ }:aD):=GF.setParams k43 rfl rfl rfl rfl;have k46:eL F0 (.pp (oL F0) (v3.f_.toNat*6)) S_v3 C0 (sH m8.hp (oL F0) (n43.set (v3.f_.toNat*6+3) (.lit (.int .i64 (x42.aV.length:Int))))) ({ v3 with p_:=⟨(v3.p_.bD.set v3.f_.toNat { x42 with aW:=(x42.aV.length:Int) })⟩ }:aD):=by rw [←s44];exact k45
  refine eC (o0 [0,1,2,3,4,5,6,7,8,9,10,11,12,13,14]) 19 fun _ z=>?_;simp only [go_sem,seval,c10,s55,k43.hF,s44,s60.slen,k43.len3,e9];apply z;simp only [];cases h;refine ⟨by simp,?_⟩;simp only [go_sem,qH,s44];refine ⟨S_v3,_,_,Fr.to (q:=q) (p:=P0) ?_ u0 (by simp only [go_sem,s44,e9]),?_⟩
  ·simp only [go_sem,e9]
  ·simp only [go_sem,k46]
def Cp (f:aD->aI->Int->aB->Option (aD × aI)):Prop:=∀a0 a1 a2 a3 r,f a0 a1 a2 a3=some r->∀(q:Pa) (m:M) (vs:List V) (P0:Pa) (F0 fp0 S0 C0:V),vs.map V.weak1=[.ptr P0 0,.lit (.int .i64 a2),.agg ((aB.C a3))]/\m.blk P0=some (oD F0 fp0 S0 C0 a0 a1)/\eL F0 fp0 S0 C0 m.hp a0->SC prog 27 vs q m (fun v Y=>∃(fp S:V) (h:Hp) (vr:Nat->Nat),v=.tup []/\Y=m.ck P0 (oD F0 fp S C0 r.1 r.2) h vr/\eL F0 fp S C0 h r.1)
theorem Bu (n:Nat):Cp (jV n):=by
 rintro a0 a1 a2 a3 r h q m vs P0 F0 fp0 S0 C0 ⟨hv,w0,t0⟩;refine SC.wv hv ?_;refine SC.ap w0 fun u0 l0=>?_
 try simp only [go_sem] at w0 l0
 refine eD func27 call27 ntmps27 results27 ?_;unfold jV at h;refine aL ?_;refine aF ?_;obtain ⟨x2,h3,h⟩:=aA h;refine aP fun _ z=>?_;simp only [go_sem,seval];refine SC.mono (tT n a0 a1 a2 _ h3 _ _ _ P0 F0 fp0 S0 C0 (by simp only [go_sem,seval,eO u0,t0,w0])) ?_;rintro _ _ ⟨fp_x2,S_x2,h_x2,vr_x2,rfl,rfl,hk_x2⟩;simp only [go_sem,seval];apply z;refine aF ?_;obtain ⟨⟨f5,f6⟩,h⟩:=bP h;obtain ⟨x4,h7,h⟩:=aA h;refine aP fun _ z=>?_;simp only [go_sem,seval,eO u0,f5,f6];refine SC.mono (zY n x2.1 x2.2 (a3.aM.take (max (i64.wrap ((a3.aM.length:Int) - 1)) 0).toNat) _ h7 _ _ _ P0 F0 fp_x2 S_x2 C0 (by simp only [go_sem,seval,hk_x2])) ?_;rintro _ _ ⟨S_x4,h_x4,vr_x4,rfl,rfl,hk_x4⟩;simp only [go_sem,seval];apply z;refine aL ?_;refine bH h (fun c8 h=>?_) (fun c8 h=>?_)
 ·obtain ⟨y9,j9,h⟩:=aA h;refine fX 41 (fun X Y=>Y.blk P0=some (oD F0 fp_x2 S_x4 C0 x4.1 y9)/\eL F0 fp_x2 S_x4 C0 Y.hp x4.1/\Y.gl=m.gl/\Fr q P0 m Y/\Y.hp=h_x4) ?_ ?_
  ·obtain ⟨x10,h16,j9⟩:=aA j9;obtain ⟨f13,f14,f15⟩:=aZ h16;obtain ⟨p11,g11,n11,k11⟩:=eL.foc hk_x4 f15;obtain ⟨z11,s17,s18,s19,s20,s21,s22,s23⟩:=k11.rows;have s24:=(eL.funcsR hk_x4);have s12:=eL.fpEq hk_x4 f13;have s25:eL F0 (.pp (oL F0) (x4.1.f_.toNat*6)) S_x4 C0 h_x4 x4.1:=by rw [←s12];exact hk_x4
   rcases dD j9 with ⟨c26,j9⟩ | ⟨c26,j9⟩
   ·obtain ⟨x27,h28,j9⟩:=aA j9;refine eC [(1,0),(2,0),(3,0),(4,0),(5,0),(6,0),(7,0),(8,0),(9,0),(10,0),(11,0),(12,0),(13,0),(14,0),(15,0),(16,0),(0,0),(17,0),(18,0),(19,0),(20,1),(21,0)] 41 fun _ z=>?_;simp only [go_sem,seval,eO u0,c8,s18,k11.hF,s12,c26];refine sF (aS x4.1 x4.2 true 136 a3.fR _ h28 _ _ _ P0 F0 fp_x2 S_x4 C0) ?_;simp only [go_sem,s12];apply z;simp only [aK];cases j9;exact jD
   ·have s31:=(fD.shC k11.vars);have f32:(6<=z11.length+1+1+1+1+1+1)=True:=eq_true (by omega);obtain ⟨x29,h33,j9⟩:=aA j9;obtain ⟨x30,h34,j9⟩:=aA j9;refine eC [(1,0),(2,0),(3,0),(4,0),(5,0),(6,0),(7,0),(8,0),(9,0),(10,0),(11,0),(12,0),(13,0),(14,0),(15,0),(16,0),(0,0),(17,0),(18,0),(19,0),(20,1),(21,0)] 41 fun _ z=>?_;simp only [go_sem,seval,c8,s17,s18,s23,k11.hF,s12,c26,s31.shr,f32];refine vN (DO n x10 _ h33 _ _ _ p11 g11 (by simp only [go_sem,s23,s31.shr,k11.vars])) rfl ?_;simp only [go_sem,seval,eO u0];refine sF (aS x4.1 x4.2 (decide (x29<=4)) 136 a3.fR _ h34 _ _ _ P0 F0 fp_x2 S_x4 C0) ?_;simp only [go_sem,s12];apply z;simp only [aK];cases j9;exact jD
  ·intro E35 m36 e37 _;simp only [];cases h;refine ⟨by simp,?_⟩;simp only [go_sem];refine ⟨fp_x2,S_x4,_,_,Fr.to (q:=q) (p:=P0) ?_ u0 (by simp only [go_sem,e37]),?_⟩
   ·simp only [go_sem,e37]
   ·simp only [go_sem,hk_x4,e37]
 ·refine aU ?_;cases h;refine ⟨by simp,?_⟩;simp only [go_sem,c8];refine ⟨fp_x2,S_x4,_,_,Fr.to (q:=q) (p:=P0) ?_ u0 (by simp only [go_sem,seval]),?_⟩
  ·simp only [go_sem]
  ·simp only [go_sem,hk_x4]
def Co (f:aD->aI->Int->Option Int):Prop:=∀a0 a1 a2 r,f a0 a1 a2=some r->∀(q:Pa) (m:M) (vs:List V) (P0:Pa) (F0 fp0 S0 C0:V),vs.map V.weak1=[.ptr P0 0,.lit (.int .i64 a2)]/\m.blk P0=some (oD F0 fp0 S0 C0 a0 a1)/\eL F0 fp0 S0 C0 m.hp a0->SC prog 182 vs q m (fun v Y=>v=.lit (.int .i64 r)/\Y=m)
theorem gN:Co (fL):=by
 rintro a0 a1 a2 r h q m vs P0 F0 fp0 S0 C0 ⟨hv,w0,t0⟩;refine SC.wv hv ?_;refine SC.apart w0 fun u0=>?_
 try simp only [go_sem] at w0
 refine eD func182 call182 ntmps182 results182 ?_;unfold fL at h;refine aL ?_;refine aF (aL ?_);refine bH h (fun c1 h=>?_) (fun c1 h=>?_)
 ·refine aL ?_;refine aO ?_
  try simp only [aT]
  cases h;exact jS
 ·refine aU ?_
  refine aF ?_;obtain ⟨x2,h9,h⟩:=aA h;obtain ⟨f6,f7,f8⟩:=aZ h9;obtain ⟨p3,g3,n3,k3⟩:=eL.foc t0 f8;obtain ⟨z3,s10,s11,s12,s13,s14,s15,s16⟩:=k3.rows;have s17:=(eL.funcsR t0);have s4:=eL.fpEq t0 f6;have s18:eL F0 (.pp (oL F0) (a0.f_.toNat*6)) S0 C0 m.hp a0:=by rw [←s4];exact t0
  have s19:=(fD.shC k3.vars);obtain ⟨x5,h23,h⟩:=aA h;obtain ⟨f20,f21,f22⟩:=aZ h23;obtain ⟨H28,rs_H28,s24,s25,s26,s27⟩:=fD.readVar k3.vars f22;refine aP fun _ z=>?_;simp only [go_sem,seval,c1,s14,k3.hF,s4,sZ.ix (P:=prog) (k:=.i64) (fD.shC k3.vars) GX f20 f21,s24,s26,w0];apply z;refine aO ?_;cases h;exact jS
def Cn (f:aD->aI->aB->Option (Int × aI)):Prop:=∀a0 a1 a2 r,f a0 a1 a2=some r->∀(q:Pa) (m:M) (vs:List V) (P0:Pa) (F0 fp0 S0 C0:V),vs.map V.weak1=[.ptr P0 0,.agg ((aB.C a2))]/\m.blk P0=some (oD F0 fp0 S0 C0 a0 a1)/\eL F0 fp0 S0 C0 m.hp a0->SC prog 184 vs q m (fun v Y=>v=.lit (.int .i64 r.1)/\Y=(m.set P0 (oD F0 fp0 S0 C0 a0 r.2)))
theorem lG (n:Nat):Cn (gV n):=by
 rintro a0 a1 a2 r h q m vs P0 F0 fp0 S0 C0 ⟨hv,w0,t0⟩;refine SC.wv hv ?_;refine SC.ap w0 fun u0 l0=>?_
 try simp only [go_sem] at w0 l0
 refine eD func184 call184 ntmps184 results184 ?_;unfold gV at h;refine aL ?_;refine aF ?_;obtain ⟨x2,h3,h⟩:=aA h;refine aP fun _ z=>?_;simp only [go_sem,seval];refine SC.bA (uN n a0 a1 a2.cP _ h3 _ _ _ P0 F0 fp0 S0 C0) ?_;simp only [go_sem,seval];apply z;refine aF ?_;obtain ⟨x4,h5,h⟩:=aA h;refine aP fun _ z=>?_;simp only [go_sem,seval];refine SC.bA (aS a0 a1 (decide (0<=x2)) 130 a2.fR _ h5 _ _ _ P0 F0 fp0 S0 C0) ?_;simp only [go_sem,seval];apply z;refine aL ?_;refine aO ?_;cases h;exact jS
def HH (f:Int->Int->Option Int):Prop:=∀a0 a1 r,f a0 a1=some r->∀(q:Pa) (m:M) (vs:List V),vs.map V.weak1=[.lit (.int .i64 a0),.lit (.int .i64 a1)]->SC prog 223 vs q m (fun v Y=>v=.lit (.int .i64 r)/\Y=m)
theorem CQ:HH (tH):=by
 intro a0 a1 r h q m vs hv;refine SC.wv hv (eD func223 call223 ntmps223 results223 ?_);unfold tH at h;refine aL ?_;refine aF (bM (aF ?_));obtain ⟨y1,j1,h⟩:=aA h;refine fX 13 (fun X Y=>X 0=.lit (.int .i64 a0)/\X 1=.lit (.int .i64 a1)/\X 5=.lit (.bool y1)/\Y.gl=m.gl/\m.back q Y=m) ?_ ?_
 ·rcases dD j1 with ⟨c2,j1⟩ | ⟨c2,j1⟩
  ·
   rcases dD j1 with ⟨c3,j1⟩ | ⟨c3,j1⟩
   ·refine cH ?_;cases j1;exact jD
   ·refine cH ?_;cases j1;exact jD
  ·refine cH ?_;cases j1;exact jD
 ·intro E4 m5 e6 _;refine bH h (fun c7 h=>?_) (fun c7 h=>?_)
  ·refine aL ?_;refine aO ?_
   try simp only [aT,bI]
   cases h;exact jS
  ·refine aF ?_;obtain ⟨y8,j8,h⟩:=aA h;refine fX 28 (fun X Y=>X 18=.lit (.bool y8)/\Y.gl=m.gl/\m.back q Y=m) ?_ ?_
   ·rcases dD j8 with ⟨c9,j8⟩ | ⟨c9,j8⟩
    ·
     rcases dD j8 with ⟨c10,j8⟩ | ⟨c10,j8⟩
     ·refine cH ?_;cases j8;exact jD
     ·
      rcases dD j8 with ⟨c11,j8⟩ | ⟨c11,j8⟩
      ·refine cH ?_;cases j8;exact jD
      ·refine cH ?_;cases j8;exact jD
    ·
     rcases dD j8 with ⟨c12,j8⟩ | ⟨c12,j8⟩
     ·refine cH ?_;cases j8;exact jD
     ·refine cH ?_;cases j8;exact jD
   ·intro E13 m14 e15 _;refine bH h (fun c16 h=>?_) (fun c16 h=>?_)
    ·refine aL ?_;refine aO ?_
     try simp only [aT,bI]
     cases h;exact jS
    ·refine aU ?_
     try simp only [aK,aQ]
     refine aL ?_;refine aO ?_;cases h;exact jS
def Bq (f:aD->aI->aG->Int->Option (aG × aI)):Prop:=∀a0 a1 a2 a3 r,f a0 a1 a2 a3=some r->∀(q:Pa) (m:M) (vs:List V) (P0:Pa) (F0 fp0 S0 C0:V),vs.map V.weak1=[.ptr P0 0,.agg ((aG.C a2)),.lit (.int .i64 a3)]/\m.blk P0=some (oD F0 fp0 S0 C0 a0 a1)/\eL F0 fp0 S0 C0 m.hp a0->SC prog 224 vs q m (fun v Y=>v=.agg ((aG.C r.1))/\Y=(m.set P0 (oD F0 fp0 S0 C0 a0 r.2)))
theorem dF:Bq (cT):=by
 rintro a0 a1 a2 a3 r h q m vs P0 F0 fp0 S0 C0 ⟨hv,w0,t0⟩;refine SC.wv hv ?_;refine SC.ap w0 fun u0 l0=>?_
 try simp only [go_sem] at w0 l0
 refine eD func224 call224 ntmps224 results224 ?_;unfold cT at h;refine aL ?_;refine aF ?_;obtain ⟨x3,h4,h⟩:=aA h;refine aP fun _ z=>?_;simp only [go_sem,seval];refine SC.bA (aS a0 a1 (a3 != 0) 132 a2.fR _ h4 _ _ _ P0 F0 fp0 S0 C0) ?_;simp only [go_sem,seval];apply z;refine aL ?_;refine aL ?_;refine aO ?_;cases h;exact jS
def Br (f:aD->aI->aG->aG->aG->Option (aG × aI)):Prop:=∀a0 a1 a2 a3 a4 r,f a0 a1 a2 a3 a4=some r->∀(q:Pa) (m:M) (vs:List V) (P0:Pa) (F0 fp0 S0 C0:V),vs.map V.weak1=[.ptr P0 0,.agg ((aG.C a2)),.agg ((aG.C a3)),.agg ((aG.C a4))]/\m.blk P0=some (oD F0 fp0 S0 C0 a0 a1)/\eL F0 fp0 S0 C0 m.hp a0->SC prog 225 vs q m (fun v Y=>v=.agg ((aG.C r.1))/\Y=(m.set P0 (oD F0 fp0 S0 C0 a0 r.2)))
theorem qN:Br (hY):=by
 rintro a0 a1 a2 a3 a4 r h q m vs P0 F0 fp0 S0 C0 ⟨hv,w0,t0⟩;refine SC.wv hv ?_;refine SC.ap w0 fun u0 l0=>?_
 try simp only [go_sem] at w0 l0
 refine eD func225 call225 ntmps225 results225 ?_;unfold hY at h;refine aL ?_;refine aF ?_;obtain ⟨x5,h6,h⟩:=aA h;refine aP fun _ z=>?_;simp only [go_sem,seval];refine SC.bA (aS a0 a1 (a4.cM == 1) 133 a4.fR _ h6 _ _ _ P0 F0 fp0 S0 C0) ?_;simp only [go_sem,seval];apply z;refine aF (aL ?_);refine bH h (fun c7 h=>?_) (fun c7 h=>?_)
 ·obtain ⟨y8,j8,h⟩:=aA h;refine fX 26 (fun X Y=>X 0=.ptr P0 0/\X 5=.ptr (0::q) 0/\X 6=.ptr (1::q) 0/\X 8=.ptr (3::q) 0/\Y.blk P0=some (oD F0 fp0 S0 C0 a0 y8)/\Y.blk (0::q)=some ((aG.C a2))/\Y.blk (1::q)=some ((aG.C a3))/\Y.blk (3::q)=some ([.lit (.string (bs [])),.lit (.int .i64 0),.lit (.int .u32 0),.lit (.int .i64 0),.list .self ([].map aG.C),.lit (.int .i64 0)])/\Y.gl=m.gl/\Y.hp=m.hp/\m.back q Y=(m.set P0 (oD F0 fp0 S0 C0 a0 y8))) ?_ ?_
  ·rcases dD j8 with ⟨c9,j8⟩ | ⟨c9,j8⟩
   ·obtain ⟨x10,h11,j8⟩:=aA j8;refine aP fun _ z=>?_;simp only [go_sem,seval,eO u0,c7,c9];refine SC.bA (aS a0 x5 (decide (a4.N_<=63)) 132 a2.fR _ h11 _ _ _ P0 F0 fp0 S0 C0) ?_;simp only [go_sem,seval];apply z;cases j8;exact jD
   ·obtain ⟨x12,h13,j8⟩:=aA j8;refine aP fun _ z=>?_;simp only [go_sem,seval,eO u0,c7,c9];refine SC.bA (aS a0 x5 false 132 a2.fR _ h13 _ _ _ P0 F0 fp0 S0 C0) ?_;simp only [go_sem,seval];apply z;cases j8;exact jD
  ·intro E14 m15 e16 _;refine aF ?_;obtain ⟨x17,h18,h⟩:=aA h;refine aP fun _ z=>?_;simp only [go_sem,seval,e16];refine SC.bA (dF a0 y8 a2 a3.cM _ h18 _ _ _ P0 F0 fp0 S0 C0) ?_;simp only [go_sem,seval,eO u0,e16];apply z;refine aO ?_;cases h;exact jS
 ·refine aU ?_
  refine aF ?_;obtain ⟨x19,h20,h⟩:=aA h;refine aP fun _ z=>?_;simp only [go_sem,seval,eO u0,c7];refine SC.bA (dF a0 x5 a2 a3.cM _ h20 _ _ _ P0 F0 fp0 S0 C0) ?_;simp only [go_sem,seval,eO u0];apply z;refine aO ?_;cases h;exact jS
def HD (f:Int->Option Int):Prop:=∀a0 r,f a0=some r->∀(q:Pa) (m:M) (vs:List V),vs.map V.weak1=[.lit (.int .i64 a0)]->SC prog 180 vs q m (fun v Y=>v=.lit (.int .i64 r)/\Y=m)
theorem CN:HD (tG):=by
 intro a0 r h q m vs hv;refine SC.wv hv (eD func180 call180 ntmps180 results180 ?_);unfold tG at h;refine aL ?_;refine aF (aL ?_);refine bH h (fun c1 h=>?_) (fun c1 h=>?_)
 ·refine aL ?_;refine aO ?_
  try simp only [aT]
  cases h;exact jS
 ·refine aU ?_
  refine aL ?_;refine aO ?_;cases h;exact jS
def HE (f:Int->Option Bool):Prop:=∀a0 r,f a0=some r->∀(q:Pa) (m:M) (vs:List V),vs.map V.weak1=[.lit (.int .i64 a0)]->SC prog 227 vs q m (fun v Y=>v=.lit (.bool r)/\Y=m)
theorem pZ:HE (qI):=by
 intro a0 r h q m vs hv;refine SC.wv hv (eD func227 call227 ntmps227 results227 ?_);unfold qI at h;refine aL ?_;refine aF ?_;obtain ⟨y1,j1,h⟩:=aA h;refine fX 8 (fun X Y=>X 2=.lit (.bool y1)/\Y.gl=m.gl/\m.back q Y=m) ?_ ?_
 ·rcases dD j1 with ⟨c2,j1⟩ | ⟨c2,j1⟩
  ·refine cH ?_;cases j1;exact jD
  ·refine cH ?_;cases j1;exact jD
 ·intro E3 m4 e5 _;refine aO ?_;cases h;exact jS
def AR (f:aD->aI->aG->Option Int):Prop:=∀a0 a1 a2 r,f a0 a1 a2=some r->∀(q:Pa) (m:M) (vs:List V) (P0:Pa) (F0 fp0 S0 C0:V),vs.map V.weak1=[.ptr P0 0,.agg ((aG.C a2))]/\m.blk P0=some (oD F0 fp0 S0 C0 a0 a1)/\eL F0 fp0 S0 C0 m.hp a0->SC prog 226 vs q m (fun v Y=>v=.lit (.int .i64 r)/\Y=m)
theorem Ae:AR (mI):=by
 rintro a0 a1 a2 r h q m vs P0 F0 fp0 S0 C0 ⟨hv,w0,t0⟩;refine SC.wv hv ?_;refine SC.apart w0 fun u0=>?_
 try simp only [go_sem] at w0
 refine eD func226 call226 ntmps226 results226 ?_;unfold mI at h;refine aL ?_;refine aF ?_;obtain ⟨x2,h8,h⟩:=aA h;obtain ⟨f5,f6,f7⟩:=aZ h8;have f9:a2.aM[1]? = some x2:=f7;obtain ⟨x3,h13,h⟩:=aA h;obtain ⟨f10,f11,f12⟩:=aZ h13;have f14:a2.aM[2]? = some x3:=f12;obtain ⟨x4,h15,h⟩:=aA h;refine eC (o0 [0,1,2,3,4,5,6,7,8,9,10,11]) 14 fun _ z=>?_;simp only [go_sem,seval,f5,f6,f9,f10,f11,f14];refine sF (CQ x2.cM x3.cM _ h15 _ _ _) ?_;simp only [go_sem,seval];apply z;refine aF (aF ?_);obtain ⟨y16,j16,h⟩:=aA h;refine fX 25 (fun X Y=>X 5=.lit (.int .i64 x4)/\X 27=.lit (.bool y16)/\Y.blk P0=some (oD F0 fp0 S0 C0 a0 a1)/\Y.gl=m.gl/\Y.hp=m.hp/\m.back q Y=m) ?_ ?_
 ·obtain ⟨x17,h22,j16⟩:=aA j16;obtain ⟨f19,f20,f21⟩:=aZ h22;have f23:a2.aM[0]? = some x17:=f21;obtain ⟨x18,h24,j16⟩:=aA j16
  rcases dD j16 with ⟨c25,j16⟩ | ⟨c25,j16⟩
  ·refine aP fun _ z=>?_;simp only [go_sem,seval,f19,f20,f23];refine SC.bA (pZ x17.cM _ h24 _ _ _) ?_;simp only [go_sem,seval,c25];apply z;cases j16;exact jD
  ·refine aP fun _ z=>?_;simp only [go_sem,seval,f19,f20,f23];refine SC.bA (pZ x17.cM _ h24 _ _ _) ?_;simp only [go_sem,seval,c25];apply z;cases j16;exact jD
 ·intro E26 m27 e28 _;refine bH h (fun c29 h=>?_) (fun c29 h=>?_)
  ·refine aL ?_;refine aO ?_
   try simp only [aT]
   cases h;exact jS
  ·refine aU ?_
   refine aF ?_;obtain ⟨x30,h31,h⟩:=aA h;refine aP fun _ z=>?_;simp only [go_sem,seval,e28];refine SC.bA (CN x4 _ h31 _ _ _) ?_;simp only [go_sem,seval];apply z;refine aO ?_;cases h;exact jS
def mH (f:aD->aI->aB->Option (aG × aI)):Prop:=∀a0 a1 a2 r,f a0 a1 a2=some r->∀(q:Pa) (m:M) (vs:List V) (P0:Pa) (F0 fp0 S0 C0:V),vs.map V.weak1=[.ptr P0 0,.agg ((aB.C a2))]/\m.blk P0=some (oD F0 fp0 S0 C0 a0 a1)/\eL F0 fp0 S0 C0 m.hp a0/\m.gl 0=.eptr [(cA bL.C cX)] 0 0->SC prog 178 vs q m (fun v Y=>v=.agg ((aG.C r.1))/\Y=(m.set P0 (oD F0 fp0 S0 C0 a0 r.2)))
def rR (f:aD->aI->aB->aG->Option (aG × aI)):Prop:=∀a0 a1 a2 a3 r,f a0 a1 a2 a3=some r->∀(q:Pa) (m:M) (vs:List V) (P0:Pa) (F0 fp0 S0 C0:V),vs.map V.weak1=[.ptr P0 0,.agg ((aB.C a2)),.agg ((aG.C a3))]/\m.blk P0=some (oD F0 fp0 S0 C0 a0 a1)/\eL F0 fp0 S0 C0 m.hp a0/\m.gl 0=.eptr [(cA bL.C cX)] 0 0->SC prog 204 vs q m (fun v Y=>v=.agg ((aG.C r.1))/\Y=(m.set P0 (oD F0 fp0 S0 C0 a0 r.2)))
def rA (f:aD->aI->aB->aG->Option (aG × aI)):Prop:=∀a0 a1 a2 a3 r,f a0 a1 a2 a3=some r->∀(q:Pa) (m:M) (vs:List V) (P0:Pa) (F0 fp0 S0 C0:V),vs.map V.weak1=[.ptr P0 0,.agg ((aB.C a2)),.agg ((aG.C a3))]/\m.blk P0=some (oD F0 fp0 S0 C0 a0 a1)/\eL F0 fp0 S0 C0 m.hp a0/\m.gl 0=.eptr [(cA bL.C cX)] 0 0->SC prog 205 vs q m (fun v Y=>v=.agg ((aG.C r.1))/\Y=(m.set P0 (oD F0 fp0 S0 C0 a0 r.2)))
def qO (f:aD->aI->aB->aG->Option (aG × aI)):Prop:=∀a0 a1 a2 a3 r,f a0 a1 a2 a3=some r->∀(q:Pa) (m:M) (vs:List V) (P0:Pa) (F0 fp0 S0 C0:V),vs.map V.weak1=[.ptr P0 0,.agg ((aB.C a2)),.agg ((aG.C a3))]/\m.blk P0=some (oD F0 fp0 S0 C0 a0 a1)/\eL F0 fp0 S0 C0 m.hp a0/\m.gl 0=.eptr [(cA bL.C cX)] 0 0->SC prog 206 vs q m (fun v Y=>v=.agg ((aG.C r.1))/\Y=(m.set P0 (oD F0 fp0 S0 C0 a0 r.2)))
def pW (f:aD->aI->aB->aG->Option (aG × aI)):Prop:=∀a0 a1 a2 a3 r,f a0 a1 a2 a3=some r->∀(q:Pa) (m:M) (vs:List V) (P0:Pa) (F0 fp0 S0 C0:V),vs.map V.weak1=[.ptr P0 0,.agg ((aB.C a2)),.agg ((aG.C a3))]/\m.blk P0=some (oD F0 fp0 S0 C0 a0 a1)/\eL F0 fp0 S0 C0 m.hp a0/\m.gl 0=.eptr [(cA bL.C cX)] 0 0->SC prog 207 vs q m (fun v Y=>v=.agg ((aG.C r.1))/\Y=(m.set P0 (oD F0 fp0 S0 C0 a0 r.2)))
def nP (f:aD->aI->(List aB)->Option ((List aG) × aI)):Prop:=∀a0 a1 a2 r,f a0 a1 a2=some r->∀(q:Pa) (m:M) (vs:List V) (P0:Pa) (F0 fp0 S0 C0:V),vs.map V.weak1=[.ptr P0 0,.list .none (a2.map aB.C)]/\m.blk P0=some (oD F0 fp0 S0 C0 a0 a1)/\eL F0 fp0 S0 C0 m.hp a0/\m.gl 0=.eptr [(cA bL.C cX)] 0 0->SC prog 222 vs q m (fun v Y=>v=.list .none (r.1.map aG.C)/\Y=(m.set P0 (oD F0 fp0 S0 C0 a0 r.2)))
theorem Ac {oA} (Aj:rR oA) {mX} (zI:rA mX) {lT} (yB:qO lT) {lN} (xJ:pW lN) (n:Nat):mH (mG oA mX lT lN n):=by
 rintro a0 a1 a2 r h q m vs P0 F0 fp0 S0 C0 ⟨hv,w0,t0,hg0⟩;refine SC.wv hv ?_;refine SC.ap w0 fun u0 l0=>?_
 try simp only [go_sem] at w0 l0
 refine eD func178 call178 ntmps178 results178 ?_;unfold mG at h;refine aL ?_;refine aL ?_;refine aF (aL ?_);refine bM (aL ?_);refine bH h (fun c4 h=>?_) (fun c4 h=>?_)
 ·refine aF (BN [(2,0),(3,0),(4,0),(5,0),(0,0),(1,2),(6,0),(7,0)] 19 ?_);refine aL ?_;refine aO ?_
  try simp only [aT,bI]
  cases h;exact jS
 ·refine aL ?_;refine bH h (fun c5 h=>?_) (fun c5 h=>?_)
  ·refine aF ?_;obtain ⟨x6,h7,h⟩:=aA h;refine aP fun _ z=>?_;simp only [go_sem,seval,c5];refine SC.bA (lG n a0 a1 a2 _ h7 _ _ _ P0 F0 fp0 S0 C0) ?_;simp only [go_sem,seval,eO u0];apply z;refine aF ?_;obtain ⟨x8,h9,h⟩:=aA h;refine aP fun _ z=>?_;simp only [go_sem,seval];refine SC.bA (gN a0 x6.2 x6.1 _ h9 _ _ _ P0 F0 fp0 S0 C0) ?_;simp only [go_sem,seval];apply z;refine aF ?_;obtain ⟨x10,h11,h⟩:=aA h;refine aP fun _ z=>?_;simp only [go_sem,seval,eO u0];refine SC.bA (aS a0 x6.2 (x8 != 4) 132 a2.fR _ h11 _ _ _ P0 F0 fp0 S0 C0) ?_;simp only [go_sem,seval];apply z;refine aL ?_;refine aL ?_;refine aO ?_
   try simp only [aT,bI]
   cases h;exact jS
  ·refine aL ?_;refine bH h (fun c12 h=>?_) (fun c12 h=>?_)
   ·refine aF ?_;obtain ⟨x13,h14,h⟩:=aA h;refine aP fun _ z=>?_;simp only [go_sem,seval,c12];refine SC.bA (Aj a0 a1 a2 (aG.mk [] 0 0 (-1:Int) [] a2.fR) _ h14 _ _ _ P0 F0 fp0 S0 C0) ?_;simp only [go_sem,seval,eO u0];apply z;refine aO ?_
    try simp only [aT,bI]
    cases h;exact jS
   ·refine aL ?_;refine bH h (fun c15 h=>?_) (fun c15 h=>?_)
    ·refine aF ?_;obtain ⟨x16,h17,h⟩:=aA h;refine aP fun _ z=>?_;simp only [go_sem,seval,c15];refine SC.bA (zI a0 a1 a2 (aG.mk [] 0 0 (-1:Int) [] a2.fR) _ h17 _ _ _ P0 F0 fp0 S0 C0) ?_;simp only [go_sem,seval,eO u0];apply z;refine aO ?_
     try simp only [aT,bI]
     cases h;exact jS
    ·refine aL ?_;refine bH h (fun c18 h=>?_) (fun c18 h=>?_)
     ·refine aF ?_;obtain ⟨x19,h20,h⟩:=aA h;refine aP fun _ z=>?_;simp only [go_sem,seval,c18];refine SC.bA (yB a0 a1 a2 (aG.mk [] 0 0 (-1:Int) [] a2.fR) _ h20 _ _ _ P0 F0 fp0 S0 C0) ?_;simp only [go_sem,seval,eO u0];apply z;refine aO ?_
      try simp only [aT,bI]
      cases h;exact jS
     ·refine aU ?_
      try simp only [aK,aQ]
      refine aF ?_;obtain ⟨x21,h22,h⟩:=aA h;refine aP fun _ z=>?_;simp only [go_sem,seval,c18];refine SC.bA (xJ a0 a1 a2 (aG.mk [] 0 0 (-1:Int) [] a2.fR) _ h22 _ _ _ P0 F0 fp0 S0 C0) ?_;simp only [go_sem,seval,eO u0];apply z;refine aO ?_;cases h;exact jS
theorem Ab {dN} (pX:mH dN) (n:Nat):rR (mF dN n):=by
 rintro a0 a1 a2 a3 r h q m vs P0 F0 fp0 S0 C0 ⟨hv,w0,t0,hg0⟩;refine SC.wv hv ?_;refine SC.ap w0 fun u0 l0=>?_
 try simp only [go_sem] at w0 l0
 refine eD func204 call204 ntmps204 results204 ?_;unfold mF at h;refine aL ?_;refine aF ?_;obtain ⟨x4,h10,h⟩:=aA h;obtain ⟨f7,f8,f9⟩:=aZ h10;have f11:a2.aM[0]? = some x4:=f9;obtain ⟨x5,h12,h⟩:=aA h;refine aP fun _ z=>?_;simp only [go_sem,seval,f7,f8,f11];refine SC.bA (pX a0 a1 x4 _ h12 _ _ _ P0 F0 fp0 S0 C0) ?_;simp only [go_sem,seval];apply z;refine aF ?_;obtain ⟨x13,h14,h⟩:=aA h;refine aP fun _ z=>?_;simp only [go_sem,seval,eO u0];refine SC.bA (lG n a0 x5.2 a2 _ h14 _ _ _ P0 F0 fp0 S0 C0) ?_;simp only [go_sem,seval,eO u0];apply z;refine aF ?_;obtain ⟨x15,h17,h⟩:=aA h;obtain ⟨x16,h18,h⟩:=aA h;refine eC [(1,0),(2,0),(3,0),(4,0),(0,0),(5,0),(6,0),(7,1),(8,0)] 29 fun _ z=>?_;simp only [go_sem,seval];refine sF (gN a0 x13.2 x13.1 _ h17 _ _ _ P0 F0 fp0 S0 C0) ?_;simp only [go_sem,seval,eO u0];refine sF (aS a0 x13.2 (x15 == 4) 132 a2.fR _ h18 _ _ _ P0 F0 fp0 S0 C0) ?_;simp only [go_sem];apply z;refine aF ?_;obtain ⟨x19,h20,h⟩:=aA h;refine aP fun _ z=>?_;simp only [go_sem,seval,eO u0];refine SC.bA (aS a0 x16 (x5.1.cM == 1) 133 x5.1.fR _ h20 _ _ _ P0 F0 fp0 S0 C0) ?_;simp only [go_sem,seval];apply z;refine aF (aF ?_);obtain ⟨y21,j21,h⟩:=aA h;refine fX 46 (fun X Y=>X 0=.ptr P0 0/\X 5=.ptr (1::q) 0/\X 6=.ptr (2::q) 0/\X 7=.ptr (9::q) 0/\X 45=.lit (.bool y21)/\Y.blk P0=some (oD F0 fp0 S0 C0 a0 x19)/\Y.blk (1::q)=some ((aG.C ({ a3 with kL:=([105,110,100,101,120]:cQ),cM:=2,lO:=x13.1 }:aG)))/\Y.blk (2::q)=some ([.lit (.string (bs [])),.lit (.int .i64 0),.lit (.int .u32 0),.lit (.int .i64 0),.list .self ([].map aG.C),.lit (.int .i64 0)])/\Y.blk (9::q)=some ((aG.C x5.1))/\Y.gl=m.gl/\Y.hp=m.hp/\m.back q Y=(m.set P0 (oD F0 fp0 S0 C0 a0 x19))) ?_ ?_
 ·rcases dD j21 with ⟨c22,j21⟩ | ⟨c22,j21⟩
  ·refine cH ?_;cases j21;exact jD
  ·refine aP fun _ z=>?_;simp only [go_sem,seval,c22];apply z;cases j21;exact jD
 ·intro E23 m24 e25 _;refine bH h (fun c26 h=>?_) (fun c26 h=>?_)
  ·obtain ⟨x27,h35,h⟩:=aA h;obtain ⟨f32,f33,f34⟩:=aZ h35;obtain ⟨p28,g28,n28,k28⟩:=eL.foc t0 f34;obtain ⟨z28,s36,s37,s38,s39,s40,s41,s42⟩:=k28.rows;have s43:=(eL.funcsR t0);have s29:=eL.fpEq t0 f32;have s44:eL F0 (.pp (oL F0) (a0.f_.toNat*6)) S0 C0 m.hp a0:=by rw [←s29];exact t0
   have s45:=(fD.shC k28.vars);obtain ⟨x30,h49,h⟩:=aA h;obtain ⟨f46,f47,f48⟩:=aZ h49;obtain ⟨H54,rs_H54,s50,s51,s52,s53⟩:=fD.readVar k28.vars f48;obtain ⟨x31,h55,h⟩:=aA h;refine eC (o0 [0,1,2,3,4,5,6,7,8,9,10,11,12,13,14,15,16,17,18,19]) 66 fun _ z=>?_;simp only [go_sem,seval,s40,k28.hF,s29,sZ.ix (P:=prog) (k:=.i64) (fD.shC k28.vars) GX f46 f47,s50,s53,e25];refine sF (aS a0 x19 (decide ((i64.wrap x5.1.N_)<x30.jB)) 137 x5.1.fR _ h55 _ _ _ P0 F0 fp0 S0 C0) ?_;simp only [go_sem,s29];apply z;refine aL ?_;refine aL ?_;refine aO ?_;cases h;exact jS
  ·refine aU ?_
   refine aL ?_;refine aL ?_;refine aO ?_;cases h;exact jS
theorem yX {dL} (kW:nP dL) (n:Nat):rA (lF dL n):=by
 rintro a0 a1 a2 a3 r h q m vs P0 F0 fp0 S0 C0 ⟨hv,w0,t0,hg0⟩;refine SC.wv hv ?_;refine SC.ap w0 fun u0 l0=>?_
 try simp only [go_sem] at w0 l0
 refine eD func205 call205 ntmps205 results205 ?_;unfold lF at h;refine aL ?_;refine aF ?_;obtain ⟨x4,h5,h⟩:=aA h;refine aP fun _ z=>?_;simp only [go_sem,seval];refine SC.bA (kW a0 a1 a2.aM _ h5 _ _ _ P0 F0 fp0 S0 C0) ?_;simp only [go_sem,seval,eO u0];apply z;refine aL ?_;refine aF (aL ?_);refine bH h (fun c6 h=>?_) (fun c6 h=>?_)
 ·refine cH ?_;refine aF ?_;obtain ⟨x7,h11,h⟩:=aA h;obtain ⟨f8,f9,f10⟩:=aZ h11;have f12:x4.1[0]? = some x7:=f10;refine cH ?_;refine aL ?_;refine aO ?_;cases h;exact jS
 ·refine aU ?_
  refine aF ?_;obtain ⟨x13,h17,h⟩:=aA h;obtain ⟨f14,f15,f16⟩:=aZ h17;have f18:x4.1[0]? = some x13:=f16;refine cH ?_;refine aL ?_;refine aO ?_;cases h;exact jS
theorem xW {dL} (kW:nP dL) (n:Nat):qO (kU dL n):=by
 rintro a0 a1 a2 a3 r h q m vs P0 F0 fp0 S0 C0 ⟨hv,w0,t0,hg0⟩;refine SC.wv hv ?_;refine SC.ap w0 fun u0 l0=>?_
 try simp only [go_sem] at w0 l0
 refine eD func206 call206 ntmps206 results206 ?_;unfold kU at h;refine aL ?_;refine aF ?_;obtain ⟨x4,h5,h⟩:=aA h;refine eC [(2,0),(3,0),(4,0),(5,0),(0,0),(1,1),(6,0),(7,0),(8,0),(9,0)] 13 fun _ z=>?_;simp only [go_sem,seval];refine sF (kW a0 a1 a2.aM _ h5 _ _ _ P0 F0 fp0 S0 C0) ?_;simp only [go_sem,seval,eO u0];apply z;refine aF ?_;obtain ⟨x6,h13,h⟩:=aA h;obtain ⟨f10,f11,f12⟩:=aZ h13;have f14:x4.1[0]? = some x6:=f12;obtain ⟨x9,h18,h⟩:=aA h;obtain ⟨f15,f16,f17⟩:=aZ h18;have f19:x4.1[1]? = some x9:=f17;refine BN [(0,0),(1,0),(2,0),(3,0),(8,0),(9,0),(10,0),(4,0),(5,1),(6,0),(7,1),(11,0)] 25 ?_;refine aF ?_;obtain ⟨x20,h21,h⟩:=aA h;refine aP fun _ z=>?_;simp only [go_sem,seval];refine SC.bA (CQ x6.cM x9.cM _ h21 _ _ _) ?_;simp only [go_sem,seval];apply z;refine aF (aL ?_);refine bM (aF (aL ?_));refine bH h (fun c22 h=>?_) (fun c22 h=>?_)
 ·refine aU ?_
  refine iF true (by simp only [go_sem,seval,c22]) ?_;simp only [↓reduceIte];refine aF ?_;obtain ⟨x23,h24,h⟩:=aA h;refine aP fun _ z=>?_;simp only [go_sem,seval,c22];refine SC.bA (aS a0 x4.2 (x6.cM == 1) 133 x6.fR _ h24 _ _ _ P0 F0 fp0 S0 C0) ?_;simp only [go_sem,seval];apply z;refine aF ?_;obtain ⟨x25,h26,h⟩:=aA h;refine aP fun _ z=>?_;simp only [go_sem,seval,eO u0];refine SC.bA (aS a0 x23 (x9.cM == 1) 133 x9.fR _ h26 _ _ _ P0 F0 fp0 S0 C0) ?_;simp only [go_sem,seval];apply z;refine aF ?_;obtain ⟨x27,h28,h⟩:=aA h;refine aP fun _ z=>?_;simp only [go_sem,seval,eO u0];refine SC.bA (dF a0 x25 ({ a3 with kL:=a2.cP,aM:=x4.1 }:aG) 1 _ h28 _ _ _ P0 F0 fp0 S0 C0) ?_;simp only [go_sem,seval,eO u0];apply z;refine aO ?_
  try simp only [aT,bI]
  cases h;exact jS
 ·refine cH ?_;refine bH h (fun c29 h=>?_) (fun c29 h=>?_)
  ·refine aF ?_;obtain ⟨x30,h31,h⟩:=aA h;refine aP fun _ z=>?_;simp only [go_sem,seval,c29];refine SC.bA (aS a0 x4.2 (x6.cM == 1) 133 x6.fR _ h31 _ _ _ P0 F0 fp0 S0 C0) ?_;simp only [go_sem,seval];apply z;refine aF ?_;obtain ⟨x32,h33,h⟩:=aA h;refine aP fun _ z=>?_;simp only [go_sem,seval,eO u0];refine SC.bA (aS a0 x30 (x9.cM == 1) 133 x9.fR _ h33 _ _ _ P0 F0 fp0 S0 C0) ?_;simp only [go_sem,seval];apply z;refine aF ?_;obtain ⟨x34,h35,h⟩:=aA h;refine aP fun _ z=>?_;simp only [go_sem,seval,eO u0];refine SC.bA (dF a0 x32 ({ a3 with kL:=a2.cP,aM:=x4.1 }:aG) 1 _ h35 _ _ _ P0 F0 fp0 S0 C0) ?_;simp only [go_sem,seval,eO u0];apply z;refine aO ?_
   try simp only [aT,bI]
   cases h;exact jS
  ·refine aF (aL ?_);refine bH h (fun c36 h=>?_) (fun c36 h=>?_)
   ·refine aU ?_
    refine iF true (by simp only [go_sem,seval,c36]) ?_;simp only [↓reduceIte];refine aF ?_;obtain ⟨x37,h38,h⟩:=aA h;refine aP fun _ z=>?_;simp only [go_sem,seval,c36];refine SC.bA (qN a0 x4.2 ({ a3 with kL:=a2.cP,aM:=x4.1 }:aG) x6 x9 _ h38 _ _ _ P0 F0 fp0 S0 C0) ?_;simp only [go_sem,seval,eO u0];apply z;refine aO ?_
    try simp only [aT,bI]
    cases h;exact jS
   ·refine aL ?_;refine bH h (fun c39 h=>?_) (fun c39 h=>?_)
    ·refine aU ?_
     refine iF true (by simp only [go_sem,seval,c39]) ?_;simp only [↓reduceIte];refine aF ?_;obtain ⟨x40,h41,h⟩:=aA h;refine aP fun _ z=>?_;simp only [go_sem,seval,c39];refine SC.bA (qN a0 x4.2 ({ a3 with kL:=a2.cP,aM:=x4.1 }:aG) x6 x9 _ h41 _ _ _ P0 F0 fp0 S0 C0) ?_;simp only [go_sem,seval,eO u0];apply z;refine aO ?_
     try simp only [aT,bI]
     cases h;exact jS
    ·refine cH ?_;refine bH h (fun c42 h=>?_) (fun c42 h=>?_)
     ·refine aF ?_;obtain ⟨x43,h44,h⟩:=aA h;refine aP fun _ z=>?_;simp only [go_sem,seval,c42];refine SC.bA (qN a0 x4.2 ({ a3 with kL:=a2.cP,aM:=x4.1 }:aG) x6 x9 _ h44 _ _ _ P0 F0 fp0 S0 C0) ?_;simp only [go_sem,seval,eO u0];apply z;refine aO ?_
      try simp only [aT,bI]
      cases h;exact jS
     ·refine aL ?_;refine bH h (fun c45 h=>?_) (fun c45 h=>?_)
      ·obtain ⟨x46,h47,h⟩:=aA h;refine eR fun _ z=>?_;simp only [go_sem,seval,eO u0,c45];refine SC.bA (aS a0 x4.2 (x20 != 3) 132 a2.fR _ h47 _ _ _ P0 F0 fp0 S0 C0) ?_;simp only [go_sem,seval];apply z;simp only [aK,aQ];refine aF ?_;obtain ⟨x48,h49,h⟩:=aA h;refine aP fun _ z=>?_;simp only [go_sem,seval,eO u0];refine SC.bA (dF a0 x46 ({ a3 with kL:=a2.cP,aM:=x4.1 }:aG) x20 _ h49 _ _ _ P0 F0 fp0 S0 C0) ?_;simp only [go_sem,seval,eO u0];apply z;refine aO ?_;cases h;exact jS
      ·refine aF (aL ?_);refine bH h (fun c50 h=>?_) (fun c50 h=>?_)
       ·refine aU ?_
        refine iF true (by simp only [go_sem,seval,c50]) ?_;simp only [↓reduceIte];refine aL ?_;refine bH h (fun c51 h=>?_) (fun c51 h=>?_)
        ·refine eR fun _ z=>?_;simp only [go_sem,seval,c51];apply z;simp only [aK,aQ];refine aF ?_;obtain ⟨x52,h53,h⟩:=aA h;refine aP fun _ z=>?_;simp only [go_sem,seval];refine SC.bA (dF a0 x4.2 ({ a3 with kL:=a2.cP,aM:=x4.1 }:aG) 2 _ h53 _ _ _ P0 F0 fp0 S0 C0) ?_;simp only [go_sem,seval,eO u0];apply z;refine aO ?_;cases h;exact jS
        ·refine aU ?_
         try simp only [aK,aQ]
         refine aF ?_;obtain ⟨x54,h55,h⟩:=aA h;refine aP fun _ z=>?_;simp only [go_sem,seval,c51];refine SC.bA (dF a0 x4.2 ({ a3 with kL:=a2.cP,aM:=x4.1 }:aG) x20 _ h55 _ _ _ P0 F0 fp0 S0 C0) ?_;simp only [go_sem,seval,eO u0];apply z;refine aO ?_;cases h;exact jS
       ·refine cH ?_;refine bH h (fun c56 h=>?_) (fun c56 h=>?_)
        ·refine aL ?_;refine bH h (fun c57 h=>?_) (fun c57 h=>?_)
         ·refine eR fun _ z=>?_;simp only [go_sem,seval,c57];apply z;simp only [aK,aQ];refine aF ?_;obtain ⟨x58,h59,h⟩:=aA h;refine aP fun _ z=>?_;simp only [go_sem,seval];refine SC.bA (dF a0 x4.2 ({ a3 with kL:=a2.cP,aM:=x4.1 }:aG) 2 _ h59 _ _ _ P0 F0 fp0 S0 C0) ?_;simp only [go_sem,seval,eO u0];apply z;refine aO ?_;cases h;exact jS
         ·refine aU ?_
          try simp only [aK,aQ]
          refine aF ?_;obtain ⟨x60,h61,h⟩:=aA h;refine aP fun _ z=>?_;simp only [go_sem,seval,c57];refine SC.bA (dF a0 x4.2 ({ a3 with kL:=a2.cP,aM:=x4.1 }:aG) x20 _ h61 _ _ _ P0 F0 fp0 S0 C0) ?_;simp only [go_sem,seval,eO u0];apply z;refine aO ?_;cases h;exact jS
        ·refine aU ?_
         try simp only [aK,aQ]
         refine aF ?_;obtain ⟨x62,h63,h⟩:=aA h;refine aP fun _ z=>?_;simp only [go_sem,seval,c56];refine SC.bA (dF a0 x4.2 ({ a3 with kL:=a2.cP,aM:=x4.1 }:aG) x20 _ h63 _ _ _ P0 F0 fp0 S0 C0) ?_;simp only [go_sem,seval,eO u0];apply z;refine aO ?_;cases h;exact jS
theorem xH {dL} (kW:nP dL) (n:Nat):pW (kG dL n):=by
 rintro a0 a1 a2 a3 r h q m vs P0 F0 fp0 S0 C0 ⟨hv,w0,t0,hg0⟩;refine SC.wv hv ?_;refine SC.ap w0 fun u0 l0=>?_
 try simp only [go_sem] at w0 l0
 refine eD func207 call207 ntmps207 results207 ?_;unfold kG at h;refine aL ?_;refine aF ?_;obtain ⟨x4,h5,h⟩:=aA h;refine aP fun _ z=>?_;simp only [go_sem,seval];refine SC.bA (Bc n a2.cP _ h5 _ _ _) ?_;simp only [go_sem,seval];apply z;refine aF ?_;obtain ⟨x6,h7,h⟩:=aA h;refine aP fun _ z=>?_;simp only [go_sem,seval];refine SC.bA (aS a0 a1 (decide (0<x4)) 130 a2.fR _ h7 _ _ _ P0 F0 fp0 S0 C0) ?_;simp only [go_sem,seval];apply z;refine aF ?_;obtain ⟨x8,h9,h⟩:=aA h;refine aP fun _ z=>?_;simp only [go_sem,seval,eO u0];refine SC.bA (aS a0 x6 ((a2.aM.length:Int) == x4) 136 a2.fR _ h9 _ _ _ P0 F0 fp0 S0 C0) ?_;simp only [go_sem,seval];apply z;refine aF ?_;obtain ⟨x10,h11,h⟩:=aA h;refine eC [(2,0),(3,0),(4,0),(5,0),(0,0),(1,1),(6,0),(7,0),(8,0),(9,0)] 32 fun _ z=>?_;simp only [go_sem,seval,eO u0];refine sF (kW a0 x8 a2.aM _ h11 _ _ _ P0 F0 fp0 S0 C0) ?_;simp only [go_sem,seval,eO u0];apply z;refine aF (aL ?_);refine bH h (fun c12 h=>?_) (fun c12 h=>?_)
 ·refine aL ?_;refine aO ?_
  try simp only [aT]
  cases h;exact jS
 ·refine aU ?_
  refine aF ?_;obtain ⟨x13,h17,h⟩:=aA h;obtain ⟨f14,f15,f16⟩:=aZ h17;have f18:x10.1[0]? = some x13:=f16;refine cH ?_;refine aF (aL ?_);refine bM (aL ?_);refine bH h (fun c19 h=>?_) (fun c19 h=>?_)
  ·refine aF ?_;obtain ⟨x20,h22,h⟩:=aA h;obtain ⟨x21,h23,h⟩:=aA h;refine eC [(2,0),(3,0),(4,0),(0,0),(1,1),(5,0),(6,0)] 54 fun _ z=>?_;simp only [go_sem,seval,c19];refine sF (Ae a0 x10.2 ({ a3 with kL:=a2.cP,aM:=x10.1 }:aG) _ h22 _ _ _ P0 F0 fp0 S0 C0) ?_;simp only [go_sem,seval];refine sF (dF a0 x10.2 ({ a3 with kL:=a2.cP,aM:=x10.1 }:aG) x20 _ h23 _ _ _ P0 F0 fp0 S0 C0) ?_;simp only [go_sem,seval,eO u0];apply z;refine aO ?_
   try simp only [aT,bI]
   cases h;exact jS
  ·refine aL ?_;refine bH h (fun c24 h=>?_) (fun c24 h=>?_)
   ·refine aF ?_;obtain ⟨x25,h27,h⟩:=aA h;obtain ⟨x26,h28,h⟩:=aA h;refine eC [(1,0),(2,0),(0,0),(3,0),(4,1),(5,0)] 55 fun _ z=>?_;simp only [go_sem,seval,c24];refine sF (pZ x13.cM _ h27 _ _ _) ?_;simp only [go_sem,seval,eO u0];refine sF (aS a0 x10.2 x25 132 a2.fR _ h28 _ _ _ P0 F0 fp0 S0 C0) ?_;simp only [go_sem];apply z;refine aF ?_;obtain ⟨x29,h30,h⟩:=aA h;refine aP fun _ z=>?_;simp only [go_sem,seval,eO u0];refine SC.bA (dF a0 x26 ({ a3 with kL:=a2.cP,aM:=x10.1 }:aG) 3 _ h30 _ _ _ P0 F0 fp0 S0 C0) ?_;simp only [go_sem,seval,eO u0];apply z;refine aO ?_
    try simp only [aT,bI]
    cases h;exact jS
   ·refine aL ?_;refine bH h (fun c31 h=>?_) (fun c31 h=>?_)
    ·refine aF ?_;obtain ⟨y32,j32,h⟩:=aA h;refine fX 65 (fun X Y=>X 0=.ptr P0 0/\X 5=.ptr (1::q) 0/\X 6=.ptr (2::q) 0/\Y.blk P0=some (oD F0 fp0 S0 C0 a0 y32)/\Y.blk (1::q)=some ((aG.C ({ a3 with kL:=a2.cP,aM:=x10.1 }:aG)))/\Y.blk (2::q)=some ([.lit (.string (bs [])),.lit (.int .i64 0),.lit (.int .u32 0),.lit (.int .i64 0),.list .self ([].map aG.C),.lit (.int .i64 0)])/\Y.gl=m.gl/\Y.hp=m.hp/\m.back q Y=(m.set P0 (oD F0 fp0 S0 C0 a0 y32))) ?_ ?_
     ·obtain ⟨x33,h34,j32⟩:=aA j32
      rcases dD j32 with ⟨c35,j32⟩ | ⟨c35,j32⟩
      ·obtain ⟨x36,h42,j32⟩:=aA j32;obtain ⟨f39,f40,f41⟩:=aZ h42;have f43:x10.1[1]? = some x36:=f41;obtain ⟨x37,h44,j32⟩:=aA j32;obtain ⟨x38,h45,j32⟩:=aA j32;refine eC [(1,0),(2,0),(3,0),(4,0),(5,0),(6,0),(7,0),(8,0),(9,0),(0,0),(10,0),(11,0),(12,2),(13,0)] 65 fun _ z=>?_;simp only [go_sem,seval,c31];refine sF (pZ x13.cM _ h34 _ _ _) ?_;simp only [go_sem,seval,c35,f39,f40,f43];refine sF (pZ x36.cM _ h44 _ _ _) ?_;simp only [go_sem,seval,eO u0];refine sF (aS a0 x10.2 x37 132 a2.fR _ h45 _ _ _ P0 F0 fp0 S0 C0) ?_;simp only [go_sem];apply z;simp only [aK];cases j32;exact jD
      ·obtain ⟨x46,h47,j32⟩:=aA j32;refine eC [(1,0),(2,0),(3,0),(4,0),(5,0),(6,0),(7,0),(8,0),(9,0),(0,0),(10,0),(11,0),(12,2),(13,0)] 65 fun _ z=>?_;simp only [go_sem,seval,c31];refine sF (pZ x13.cM _ h34 _ _ _) ?_;simp only [go_sem,seval,eO u0,c35];refine sF (aS a0 x10.2 false 132 a2.fR _ h47 _ _ _ P0 F0 fp0 S0 C0) ?_;simp only [go_sem];apply z;simp only [aK];cases j32;exact jD
     ·intro E48 m49 e50 _;refine aF ?_;obtain ⟨x51,h52,h⟩:=aA h;refine aP fun _ z=>?_;simp only [go_sem,seval,e50];refine SC.bA (dF a0 y32 ({ a3 with kL:=a2.cP,aM:=x10.1 }:aG) 3 _ h52 _ _ _ P0 F0 fp0 S0 C0) ?_;simp only [go_sem,seval,eO u0,e50];apply z;refine aO ?_
      try simp only [aT,bI]
      cases h;exact jS
    ·refine aU ?_
     try simp only [aK,aQ]
     refine aF ?_;obtain ⟨x53,h54,h⟩:=aA h;refine aP fun _ z=>?_;simp only [go_sem,seval,eO u0,c31];refine SC.bA (aS a0 x10.2 (x13.cM == 3) 132 a2.fR _ h54 _ _ _ P0 F0 fp0 S0 C0) ?_;simp only [go_sem,seval];apply z;refine aF ?_;obtain ⟨x55,h56,h⟩:=aA h;refine aP fun _ z=>?_;simp only [go_sem,seval,eO u0];refine SC.bA (dF a0 x53 ({ a3 with kL:=a2.cP,aM:=x10.1 }:aG) 2 _ h56 _ _ _ P0 F0 fp0 S0 C0) ?_;simp only [go_sem,seval,eO u0];apply z;refine aO ?_;cases h;exact jS
theorem AW {dN} (pX:mH dN) (n:Nat):nP (nO dN n):=by
 rintro a0 a1 a2 r h q m vs P0 F0 fp0 S0 C0 ⟨hv,w0,t0,hg0⟩;refine SC.wv hv ?_;refine SC.ap w0 fun u0 l0=>?_
 try simp only [go_sem] at w0 l0
 refine eD func222 call222 ntmps222 results222 ?_;unfold nO at h;refine aL ?_;refine aL ?_;refine aF (aL ?_);refine bM ?_;obtain ⟨y5,j5,h⟩:=aA h;refine zL 5 ([].map aG.C) rfl (by simp only [go_sem,seval]) ?_;refine kX (fun c X Y=>∃v2 v3 v4 o_v2 j_v2,kD dN a2 a0 c v2 v3 v4=some y5/\X 0=.ptr P0 0/\X 5=.list (.st (.anon o_v2 j_v2)) (v2.map aG.C)/\Y.tok o_v2 j_v2=true/\q <:+ o_v2/\X 8=.list .none (a2.map aB.C)/\X 9=.lit (.int .i64 (a2.length:Int))/\X 10=.lit (.int .i64 v3)/\Y.blk P0=some (oD F0 fp0 S0 C0 a0 v4)/\Y.gl=m.gl/\Y.hp=m.hp/\m.back q Y=(m.set P0 (oD F0 fp0 S0 C0 a0 v4))) n ⟨[],0,a1,(5::q),0,j5,?_⟩ ?_
 ·simp only [go_sem,seval,cG,bK,l0,w0]
 rintro i1 c6 E7 m8 ⟨v2,v3,v4,o_v2,j_v2,j5,e9⟩ _
 rcases c6 with _ | c6
 ·cases j5
 rw [kD] at j5;refine aL ?_;refine aF (bH j5 (fun c10 j5=>?_) (fun c10 j5=>?_))
 ·refine aU ?_
  refine aF (bM (aF ?_));obtain ⟨x11,h16,j5⟩:=aA j5;obtain ⟨f13,f14,f15⟩:=aZ h16;refine cH ?_;obtain ⟨x17,h18,j5⟩:=aA j5;obtain ⟨f19,j5⟩:=bP j5;have f20:v2.length+1<=1073741824:=by first | omega | (simp only [nC,jC,lA] at f19 ⊢;omega)
  have f21:v2.length<=1073741823:=by first | omega | (simp only [nC,jC,lA] at f19 ⊢;omega)
  refine eR fun _ z=>?_;simp only [go_sem,seval,e9];refine SC.bA (pX a0 v4 x11 _ h18 _ _ _ P0 F0 fp0 S0 C0) ?_;simp only [go_sem,seval,f20,e9];apply z;simp only [aK,aQ];refine cH ?_;refine ⟨c6,xQ _,(v2++[x17.1]),(i64.wrap (v3+1)),x17.2,(10::i1::6::q),0,j5,?_⟩;simp only [go_sem,seval,bF,cG,dG u0,e9]
 ·refine dQ ?_
  try simp only [bZ,bR,↓reduceIte,aK]
  cases j5;refine aL ?_;refine aO ?_;cases h;exact jS
theorem sL:∀n,mH (gW n)/\rR (DB n)/\rA (De n)/\qO (Cu n)/\pW (By n)/\nP (Ep n)
 | 0=>⟨fun _ _ _ _ h=>fM h,fun _ _ _ _ _ h=>fM h,fun _ _ _ _ _ h=>fM h,fun _ _ _ _ _ h=>fM h,fun _ _ _ _ _ h=>fM h,fun _ _ _ _ h=>fM h⟩
 | n+1=>
   have ih:=sL n
   ⟨Ac ih.2.1 ih.2.2.1 ih.2.2.2.1 ih.2.2.2.2.1 n,Ab ih.1 n,yX ih.2.2.2.2.2 n,xW ih.2.2.2.2.2 n,xH ih.2.2.2.2.2 n,AW ih.1 n⟩
theorem jL (n:Nat):mH (gW n):=(sL n).1
def AM (f:aD->aI->aB->Option (aG × aI)):Prop:=∀a0 a1 a2 r,f a0 a1 a2=some r->∀(q:Pa) (m:M) (vs:List V) (P0:Pa) (F0 fp0 S0 C0:V),vs.map V.weak1=[.ptr P0 0,.agg ((aB.C a2))]/\m.blk P0=some (oD F0 fp0 S0 C0 a0 a1)/\eL F0 fp0 S0 C0 m.hp a0/\m.gl 0=.eptr [(cA bL.C cX)] 0 0->SC prog 140 vs q m (fun v Y=>v=.agg ((aG.C r.1))/\Y=(m.set P0 (oD F0 fp0 S0 C0 a0 r.2)))
theorem iK (n:Nat):AM (fI n):=by
 rintro a0 a1 a2 r h q m vs P0 F0 fp0 S0 C0 ⟨hv,w0,t0,hg0⟩;refine SC.wv hv ?_;refine SC.ap w0 fun u0 l0=>?_
 try simp only [go_sem] at w0 l0
 refine eD func140 call140 ntmps140 results140 ?_;unfold fI at h;refine aL ?_;refine aF ?_;obtain ⟨x3,h5,h⟩:=aA h;refine aP fun _ z=>?_;simp only [go_sem,seval];refine SC.bA (jL n a0 a1 a2 _ h5 _ _ _ P0 F0 fp0 S0 C0) ?_;simp only [go_sem,seval];apply z;refine aF ?_;obtain ⟨x6,h7,h⟩:=aA h;refine aP fun _ z=>?_;simp only [go_sem,seval,eO u0];refine SC.bA (aS a0 x3.2 (x3.1.cM == 1) 133 a2.fR _ h7 _ _ _ P0 F0 fp0 S0 C0) ?_;simp only [go_sem,seval];apply z;refine aL ?_;refine aO ?_;cases h;exact jS
def yZ (f:aD->aI->aB->Option (Int × aI)):Prop:=∀a0 a1 a2 r,f a0 a1 a2=some r->∀(q:Pa) (m:M) (vs:List V) (P0:Pa) (F0 fp0 S0 C0:V),vs.map V.weak1=[.ptr P0 0,.agg ((aB.C a2))]/\m.blk P0=some (oD F0 fp0 S0 C0 a0 a1)/\eL F0 fp0 S0 C0 m.hp a0->SC prog 186 vs q m (fun v Y=>v=.lit (.int .i64 r.1)/\Y=(m.set P0 (oD F0 fp0 S0 C0 a0 r.2)))
theorem xV (n:Nat):yZ (kS n):=by
 rintro a0 a1 a2 r h q m vs P0 F0 fp0 S0 C0 ⟨hv,w0,t0⟩;refine SC.wv hv ?_;refine SC.ap w0 fun u0 l0=>?_
 try simp only [go_sem] at w0 l0
 refine eD func186 call186 ntmps186 results186 ?_;unfold kS at h;refine aL ?_;refine aF ?_;have s3:=(eL.funcsR t0);obtain ⟨x2,h4,h⟩:=aA h;refine eC (o0 [0,1,2,3,4,5,6,7,8,9,10,11]) 14 fun _ z=>?_;simp only [go_sem,seval,eO u0,s3.shr,w0];refine vN (vP n a0.p_ a2.cP _ h4 _ _ _ F0 fp0 S0 C0 a0 (by simp only [go_sem,t0,s3.shr])) rfl ?_;simp only [go_sem,seval];apply z;refine aF ?_;obtain ⟨x5,h6,h⟩:=aA h;refine aP fun _ z=>?_;simp only [go_sem,seval];refine SC.bA (aS a0 a1 x2.2 130 a2.fR _ h6 _ _ _ P0 F0 fp0 S0 C0) ?_;simp only [go_sem,seval];apply z;refine aL ?_;refine aO ?_;cases h;exact jS
def AL (f:aD->aI->Int->Option (List bB)):Prop:=∀a0 a1 a2 r,f a0 a1 a2=some r->∀(q:Pa) (m:M) (vs:List V) (P0:Pa) (F0 fp0 S0 C0:V),vs.map V.weak1=[.ptr P0 0,.lit (.int .i64 a2)]/\m.blk P0=some (oD F0 fp0 S0 C0 a0 a1)/\eL F0 fp0 S0 C0 m.hp a0->SC prog 187 vs q m (fun v Y=>∃lv,v=lv/\fD m.hp lv 3 (r.map bB.C)/\Y=m)
theorem zX:AL (mD):=by
 rintro a0 a1 a2 r h q m vs P0 F0 fp0 S0 C0 ⟨hv,w0,t0⟩;refine SC.wv hv ?_;refine SC.apart w0 fun u0=>?_
 try simp only [go_sem] at w0
 refine eD func187 call187 ntmps187 results187 ?_;unfold mD at h;refine aL ?_;refine aF ?_;have s5:=(eL.funcsR t0);obtain ⟨x1,h9,h⟩:=aA h;obtain ⟨f6,f7,f8⟩:=aZ h9;obtain ⟨p2,g2,n2,k2⟩:=eL.foc t0 f8;obtain ⟨z2,s10,s11,s12,s13,s14,s15,s16⟩:=k2.rows;have s17:=(fD.shC k2.vars);obtain ⟨⟨f3',f4'⟩,h⟩:=bP h;have f3:0<=x1.aW:=f3';have f4:x1.aW<=(x1.aV.length:Int):=f4';have s18:sZ (xB p2 (x1.aW.toNat)) 3 (x1.aV.take (x1.aW.toNat)).length:=sZ.cutL (fD.shC k2.vars) f4;refine eC (o0 [0,1,2,3,4,5,6,7,8,9,10,11,12,13,14,15,16,17,18,19]) 21 fun _ z=>?_;simp only [go_sem,seval,s5.ld,sZ.ix (P:=prog) (k:=.i64) (eL.funcsR t0) Ku f6 f7,s13,s14,k2.hF,sZ.slHi (P:=prog) (k:=.i64) (fD.shC k2.vars) GX f3 f4,w0];apply z;refine aO ?_;cases h;refine ⟨by simp,?_⟩;simp only [go_sem,seval,bK];refine ⟨(xB p2 (x1.aW.toNat)),sZ.wk (sZ.cutL (fD.shC k2.vars) f4),?_⟩;have hR:=(fD.cutC k2.vars f4);simpa only [go_sem,seval] using hR
def JM (f:Int->Int->Option Bool):Prop:=∀a0 a1 r,f a0 a1=some r->∀(q:Pa) (m:M) (vs:List V),vs.map V.weak1=[.lit (.int .i64 a0),.lit (.int .i64 a1)]->SC prog 183 vs q m (fun v Y=>v=.lit (.bool r)/\Y=m)
theorem wP:JM (sT):=by
 intro a0 a1 r h q m vs hv;refine SC.wv hv (eD func183 call183 ntmps183 results183 ?_);unfold sT at h;refine aL ?_;refine aF ?_;obtain ⟨y1,j1,h⟩:=aA h;refine fX 13 (fun X Y=>X 4=.lit (.bool y1)/\Y.gl=m.gl/\m.back q Y=m) ?_ ?_
 ·rcases dD j1 with ⟨c2,j1⟩ | ⟨c2,j1⟩
  ·refine cH ?_;cases j1;exact jD
  ·
   rcases dD j1 with ⟨c3,j1⟩ | ⟨c3,j1⟩
   ·refine cH ?_;cases j1;exact jD
   ·refine cH ?_;cases j1;exact jD
 ·intro E4 m5 e6 _;refine aO ?_;cases h;exact jS
def BB (f:aD->aI->aB->Int->Option (aG × aI)):Prop:=∀a0 a1 a2 a3 r,f a0 a1 a2 a3=some r->∀(q:Pa) (m:M) (vs:List V) (P0:Pa) (F0 fp0 S0 C0:V),vs.map V.weak1=[.ptr P0 0,.agg ((aB.C a2)),.lit (.int .i64 a3)]/\m.blk P0=some (oD F0 fp0 S0 C0 a0 a1)/\eL F0 fp0 S0 C0 m.hp a0->SC prog 208 vs q m (fun v Y=>v=.agg ((aG.C r.1))/\Y=(m.set P0 (oD F0 fp0 S0 C0 a0 r.2)))
theorem AV (n:Nat):BB (nM n):=by
 rintro a0 a1 a2 a3 r h q m vs P0 F0 fp0 S0 C0 ⟨hv,w0,t0⟩;refine SC.wv hv ?_;refine SC.ap w0 fun u0 l0=>?_
 try simp only [go_sem] at w0 l0
 refine eD func208 call208 ntmps208 results208 ?_;unfold nM at h;refine aL ?_;refine aF ?_;obtain ⟨x3,h4,h⟩:=aA h;refine aP fun _ z=>?_;simp only [go_sem,seval];refine SC.bA (aS a0 a1 (a2.bX == 15) 132 a2.fR _ h4 _ _ _ P0 F0 fp0 S0 C0) ?_;simp only [go_sem,seval];apply z;refine aF ?_;obtain ⟨x5,h6,h⟩:=aA h;refine aP fun _ z=>?_;simp only [go_sem,seval,eO u0];refine SC.bA (lG n a0 x3 a2 _ h6 _ _ _ P0 F0 fp0 S0 C0) ?_;simp only [go_sem,seval];apply z;refine aF ?_;obtain ⟨y7,j7,h⟩:=aA h;refine fX 37 (fun X Y=>X 4=.ptr (0::q) 0/\X 6=.ptr (1::q) 0/\X 7=.lit (.int .i64 x5.1)/\Y.blk P0=some (oD F0 fp0 S0 C0 a0 y7)/\Y.blk (0::q)=some ((aB.C a2))/\Y.blk (1::q)=some ([.lit (.string (bs [])),.lit (.int .i64 0),.lit (.int .u32 0),.lit (.int .i64 0),.list .self ([].map aG.C),.lit (.int .i64 0)])/\Y.gl=m.gl/\Y.hp=m.hp/\m.back q Y=(m.set P0 (oD F0 fp0 S0 C0 a0 y7))) ?_ ?_
 ·obtain ⟨x8,h9,j7⟩:=aA j7
  rcases dD j7 with ⟨c10,j7⟩ | ⟨c10,j7⟩
  ·obtain ⟨x11,h19,j7⟩:=aA j7;obtain ⟨f16,f17,f18⟩:=aZ h19;obtain ⟨p12,g12,n12,k12⟩:=eL.foc t0 f18;obtain ⟨z12,s20,s21,s22,s23,s24,s25,s26⟩:=k12.rows;have s27:=(eL.funcsR t0);have s13:=eL.fpEq t0 f16;have s28:eL F0 (.pp (oL F0) (a0.f_.toNat*6)) S0 C0 m.hp a0:=by rw [←s13];exact t0
   have s29:=(fD.shC k12.vars);obtain ⟨x14,h33,j7⟩:=aA j7;obtain ⟨f30,f31,f32⟩:=aZ h33;obtain ⟨H38,rs_H38,s34,s35,s36,s37⟩:=fD.readVar k12.vars f32;obtain ⟨x15,h39,j7⟩:=aA j7;refine eC [(1,0),(2,0),(3,0),(0,0),(4,0),(5,0),(6,0),(7,0),(8,0),(9,0),(10,0),(11,0),(12,0),(13,0),(14,0),(15,0),(16,0),(17,0),(18,0),(19,0),(20,0),(21,0),(22,1),(23,0)] 37 fun _ z=>?_;simp only [go_sem,seval,s13];refine sF (gN a0 x5.2 x5.1 _ h9 _ _ _ P0 F0 fp0 S0 C0) ?_;simp only [go_sem,seval,eO u0,c10,s24,k12.hF,sZ.ix (P:=prog) (k:=.i64) (fD.shC k12.vars) GX f30 f31,s34,s37];refine sF (aS a0 x5.2 (x14.jB == a3) 132 a2.fR _ h39 _ _ _ P0 F0 fp0 S0 C0) ?_;simp only [go_sem,s13];apply z;simp only [aK];cases j7;exact jD
  ·obtain ⟨x40,h41,j7⟩:=aA j7;refine eC [(1,0),(2,0),(3,0),(0,0),(4,0),(5,0),(6,0),(7,0),(8,0),(9,0),(10,0),(11,0),(12,0),(13,0),(14,0),(15,0),(16,0),(17,0),(18,0),(19,0),(20,0),(21,0),(22,1),(23,0)] 37 fun _ z=>?_;simp only [go_sem,seval];refine sF (gN a0 x5.2 x5.1 _ h9 _ _ _ P0 F0 fp0 S0 C0) ?_;simp only [go_sem,seval,eO u0,c10];refine sF (aS a0 x5.2 false 132 a2.fR _ h41 _ _ _ P0 F0 fp0 S0 C0) ?_;simp only [go_sem];apply z;simp only [aK];cases j7;exact jD
 ·intro E42 m43 e44 _;refine aL ?_;refine aO ?_;cases h;exact jS
def zB (f:aD->aI->aB->bB->Option (aG × aI)):Prop:=∀a0 a1 a2 a3 r,f a0 a1 a2 a3=some r->∀(q:Pa) (m:M) (vs:List V) (P0:Pa) (F0 fp0 S0 C0:V),vs.map V.weak1=[.ptr P0 0,.agg ((aB.C a2)),.agg ((bB.C a3))]/\m.blk P0=some (oD F0 fp0 S0 C0 a0 a1)/\eL F0 fp0 S0 C0 m.hp a0/\m.gl 0=.eptr [(cA bL.C cX)] 0 0->SC prog 188 vs q m (fun v Y=>v=.agg ((aG.C r.1))/\Y=(m.set P0 (oD F0 fp0 S0 C0 a0 r.2)))
theorem xX (n:Nat):zB (kV n):=by
 rintro a0 a1 a2 a3 r h q m vs P0 F0 fp0 S0 C0 ⟨hv,w0,t0,hg0⟩;refine SC.wv hv ?_;refine SC.ap w0 fun u0 l0=>?_
 try simp only [go_sem] at w0 l0
 refine eD func188 call188 ntmps188 results188 ?_;unfold kV at h;refine aL ?_;refine aF (aL ?_);refine bH h (fun c4 h=>?_) (fun c4 h=>?_)
 ·refine aF ?_;obtain ⟨x5,h6,h⟩:=aA h;refine aP fun _ z=>?_;simp only [go_sem,seval,c4];refine SC.bA (AV n a0 a1 a2 a3.jB _ h6 _ _ _ P0 F0 fp0 S0 C0) ?_;simp only [go_sem,seval,eO u0];apply z;refine aO ?_
  try simp only [aT]
  cases h;exact jS
 ·refine aU ?_
  refine aF (aL ?_);refine bH h (fun c7 h=>?_) (fun c7 h=>?_)
  ·refine aF ?_;obtain ⟨x8,h9,h⟩:=aA h;refine aP fun _ z=>?_;simp only [go_sem,seval,c7];refine SC.bA (iK n a0 a1 a2 _ h9 _ _ _ P0 F0 fp0 S0 C0) ?_;simp only [go_sem,seval,eO u0];apply z;refine aO ?_
   try simp only [aT]
   cases h;exact jS
  ·refine aU ?_
   refine aF ?_;obtain ⟨x10,h12,h⟩:=aA h;refine aP fun _ z=>?_;simp only [go_sem,seval,c7];refine SC.bA (jL n a0 a1 a2 _ h12 _ _ _ P0 F0 fp0 S0 C0) ?_;simp only [go_sem,seval];apply z;refine aF ?_;obtain ⟨x13,h15,h⟩:=aA h;obtain ⟨x14,h16,h⟩:=aA h;refine eC [(1,0),(2,0),(3,0),(4,0),(5,0),(0,0),(6,0),(7,1),(8,0)] 23 fun _ z=>?_;simp only [go_sem,seval,eO u0];refine sF (wP x10.1.cM a3.bX _ h15 _ _ _) ?_;simp only [go_sem,seval,eO u0];refine sF (aS a0 x10.2 x13 132 a2.fR _ h16 _ _ _ P0 F0 fp0 S0 C0) ?_;simp only [go_sem];apply z;refine aL ?_;refine aO ?_;cases h;exact jS
def Cs (f:aD->aI->aB->aH->Int->Option (aH × aD × aI)):Prop:=∀a0 a1 a2 a3 a4 r,f a0 a1 a2 a3 a4=some r->∀(q:Pa) (m:M) (vs:List V) (P0:Pa) (F0 fp0 S0 C0:V),vs.map V.weak1=[.ptr P0 0,.agg ((aB.C a2)),.agg ([.lit (.string (bs a3.kL)),.lit (.int .i64 a3.lO),.lit (.int .i64 a3.pP),.nilv,.list .none (a3.eK.map aH.C),.list .none (a3.sX.map aH.C),.lit (.int .i64 a3.fR)]),.lit (.int .i64 a4)]/\m.blk P0=some (oD F0 fp0 S0 C0 a0 a1)/\eL F0 fp0 S0 C0 m.hp a0/\m.gl 0=.eptr [(cA bL.C cX)] 0 0->SC prog 144 vs q m (fun v Y=>∃(h:Hp) (vr:Nat->Nat),v=.agg ((aH.C r.1))/\Y=m.ck P0 (oD F0 fp0 S0 C0 r.2.1 r.2.2) h vr/\eL F0 fp0 S0 C0 h r.2.1)
theorem oT (n:Nat):Cs (iI n):=by
 rintro a0 a1 a2 a3 a4 r h q m vs P0 F0 fp0 S0 C0 ⟨hv,w0,t0,hg0⟩;refine SC.wv hv ?_;refine SC.ap w0 fun u0 l0=>?_
 try simp only [go_sem] at w0 l0
 refine eD func144 call144 ntmps144 results144 ?_;unfold iI at h;refine aL ?_;refine aF ?_;obtain ⟨x4,h5,h⟩:=aA h;refine aP fun _ z=>?_;simp only [go_sem,seval];refine SC.bA (xV n a0 a1 a2 _ h5 _ _ _ P0 F0 fp0 S0 C0) ?_;simp only [go_sem,seval,gZ u0];apply z;refine aF (aL ?_);refine bH h (fun c6 h=>?_) (fun c6 h=>?_)
 ·refine aL ?_;refine aO ?_
  try simp only [aT]
  cases h;refine ⟨by simp,?_⟩;simp only [go_sem,seval];refine ⟨_,_,Fr.to (q:=q) (p:=P0) ?_ u0 (by simp only [go_sem,seval,gZ u0]),?_⟩
  ·simp only [go_sem]
  ·simp only [go_sem,t0]
 ·refine aU ?_
  refine aF ?_;have s11:=(eL.callsS t0);obtain ⟨x7,h15,h⟩:=aA h;obtain ⟨f12,f13,f14⟩:=aZ h15;obtain ⟨cv_k8,HC_k8,k8⟩:=eL.focC t0 f14;obtain ⟨z8,s16⟩:=k8.row;have s17:=(fD.shC k8.cell);obtain ⟨f18,h⟩:=bP h;refine uU fun f19=>?_;have f9:m.hp (39::q)=none:=by have:=f19 39 (by omega);simpa only [go_sem,seval,t0,c6] using this
  have k10:eL F0 fp0 S0 C0 (sH (EP m.hp cv_k8 (39::q) ((x7.map (cI .i64)).flatten++[.lit (.int .i64 x4.1)])) (oL C0) (HC_k8.set a0.gB.toNat (.vec (39::q) 1 (x7.length+1)))) ({ a0 with cK:=(a0.cK.set a0.gB.toNat (x7++[x4.1])) }:aD):=JZ.app k8 f9 x4.1 rfl rfl rfl rfl;refine eC [(8,0),(9,0),(10,0),(11,0),(12,0),(13,0),(14,0),(15,0),(16,0),(17,0),(18,0),(19,0),(20,0),(21,0),(0,0),(1,0),(2,0),(3,1),(4,0),(5,0),(6,0),(7,1),(22,0),(23,0)] 42 fun _ z=>?_;simp only [go_sem,seval,gZ u0,c6,s11.ld,sZ.ix (P:=prog) (k:=.i64) (eL.callsS t0) sz84 f12 f13,s16,k8.hC];refine EM (sz:=1) (rows:=(x7.map (cI .i64))) (by (try simp only [go_sem]);have hR:=k8.cell;exact hR) Qx zc3 by3 (by decide) (by decide) rfl (by simp only [go_sem]) (by simp only [go_sem,seval]) (by first | omega | (simp only [sY,jC,lA];omega)) ?_;simp only [go_sem,seval,Fy,List.flatten_nil,qH,gZ u0,s11.ld,sZ.ix (P:=prog) (k:=.i64) (eL.callsS t0) sz84 f12 f13,JZ.apF k8 f9,k8.len];apply z;refine aF ?_;obtain ⟨x20,h21,h⟩:=aA h;refine aP fun _ z=>?_;simp only [go_sem,seval];refine SC.mono (zX ({ a0 with cK:=(a0.cK.set a0.gB.toNat (x7++[x4.1])) }:aD) x4.2 x4.1 _ h21 _ _ _ P0 F0 fp0 S0 C0 (by simp only [go_sem,seval,gZ u0,k10])) ?_;rintro v_x20 _ ⟨lv_x20,hl_x20,rl_x20,rfl⟩;rw [hl_x20]
  try simp only [go_sem] at rl_x20
  have rs_x20:=fD.shC rl_x20;simp only [go_sem,seval];apply z;refine aF ?_;obtain ⟨x22,h23,h⟩:=aA h;refine aP fun _ z=>?_;simp only [go_sem,seval,gZ u0,rs_x20.slen];refine SC.bA (aS ({ a0 with cK:=(a0.cK.set a0.gB.toNat (x7++[x4.1])) }:aD) x4.2 ((a2.aM.length:Int) == (x20.length:Int)) 136 a2.fR _ h23 _ _ _ P0 F0 fp0 S0 C0) ?_;simp only [go_sem,seval];apply z;refine aF (aL ?_);refine bM ?_;obtain ⟨y28,j28,h⟩:=aA h;refine kX (fun c X Y=>∃v25 v26 v27,jM n a2 x20 a0 x7 x4 c v25 v26 v27=some y28/\X 0=.ptr P0 0/\X 6=.ptr (1::q) 0/\X 8=.ptr (2::q) 0/\X 9=lv_x20/\X 63=.list .none (a2.aM.map aB.C)/\X 64=.lit (.int .i64 (a2.aM.length:Int))/\X 65=.lit (.int .i64 v25)/\Y.blk P0=some (oD F0 fp0 S0 C0 ({ a0 with cK:=(a0.cK.set a0.gB.toNat (x7++[x4.1])) }:aD) v26)/\eL F0 fp0 S0 C0 Y.hp ({ a0 with cK:=(a0.cK.set a0.gB.toNat (x7++[x4.1])) }:aD)/\Y.blk (1::q)=some ([.lit (.string (bs v27.kL)),.lit (.int .i64 v27.lO),.lit (.int .i64 v27.pP),.list .self (v27.aM.map aG.C),.list .none (v27.eK.map aH.C),.list .none (v27.sX.map aH.C),.lit (.int .i64 v27.fR)])/\Y.blk (2::q)=some ([.lit (.string (bs [])),.lit (.int .i64 0),.lit (.int .i64 0),.list .self ([].map aG.C),.list .self ([].map aH.C),.list .self ([].map aH.C),.lit (.int .i64 0)])/\Y.gl=m.gl/\Fr q P0 m Y/\Y.hp=(sH (EP m.hp cv_k8 (39::q) ((x7.map (cI .i64)).flatten++[.lit (.int .i64 x4.1)])) (oL C0) (HC_k8.set a0.gB.toNat (.vec (39::q) 1 (x7.length+1))))) n ⟨0,x22,({ a3 with kL:=([99,97,108,108]:cQ),lO:=a4,pP:=x4.1,aM:=[] }:aH),j28,?_⟩ ?_
  ·simp only [go_sem,seval,gZ u0,k10]
  rintro i24 c29 E30 m31 ⟨v25,v26,v27,j28,e32⟩ _
  rcases c29 with _ | c29
  ·cases j28
  rw [jM] at j28;refine aL ?_;refine aF (bH j28 (fun c33 j28=>?_) (fun c33 j28=>?_))
  ·refine aU ?_
   refine aF (bM (aF ?_));obtain ⟨x34,h39,j28⟩:=aA j28;obtain ⟨f36,f37,f38⟩:=aZ h39;refine cH ?_;refine aF (aL ?_);refine bH j28 (fun c40 j28=>?_) (fun c40 j28=>?_)
   ·refine dQ ?_
    try simp only [seval,bZ,bR,aK]
    cases j28;refine aL ?_;refine aO ?_;cases h;refine ⟨by simp,?_⟩;simp only [go_sem,seval,e32];refine ⟨_,_,Fr.to (q:=q) (p:=P0) ?_ u0 (by simp only [go_sem,seval,gZ u0,e32]),?_⟩
    ·simp only [go_sem,e32]
    ·simp only [go_sem,k10,e32]
   ·refine aU ?_
    try simp only [aK]
    obtain ⟨x41,h46,j28⟩:=aA j28;obtain ⟨f43,f44,f45⟩:=aZ h46;obtain ⟨H51,rs_H51,s47,s48,s49,s50⟩:=fD.readVar rl_x20 f45;obtain ⟨x42,h52,j28⟩:=aA j28;obtain ⟨f53,j28⟩:=bP j28;have f54:v27.aM.length+1<=1073741824:=by first | omega | (simp only [nC,jC,lA] at f53 ⊢;omega)
    have f55:v27.aM.length<=1073741823:=by first | omega | (simp only [nC,jC,lA] at f53 ⊢;omega)
    refine eC [(2,0),(3,0),(4,0),(5,0),(6,0),(7,0),(8,0),(0,0),(1,1),(9,0),(10,0),(11,0),(12,0)] 25 fun _ z=>?_;simp only [go_sem,seval,c40,sZ.ix (P:=prog) (k:=.i64) (fD.shC rl_x20) GX f43 f44,s47,s48,e32];refine sF (xX n ({ a0 with cK:=(a0.cK.set a0.gB.toNat (x7++[x4.1])) }:aD) v26 x34 x41 _ h52 _ _ _ P0 F0 fp0 S0 C0) ?_;simp only [go_sem,seval,gZ u0,f54,e32];apply z;simp only [aK,aQ];refine cH ?_;refine ⟨c29,xQ _,(i64.wrap (v25+1)),x42.2,({ v27 with aM:=(v27.aM++[x42.1]) }:aH),j28,?_⟩;simp only [go_sem,seval,Ee u0,gZ u0,k10,e32]
  ·refine dQ ?_
   try simp only [bZ,bR,↓reduceIte,aK]
   cases j28;refine aL ?_;refine aO ?_;cases h;refine ⟨by simp,?_⟩;simp only [go_sem,seval,e32];refine ⟨_,_,Fr.to (q:=q) (p:=P0) ?_ u0 (by simp only [go_sem,seval,gZ u0,e32]),?_⟩
   ·simp only [go_sem,e32]
   ·simp only [go_sem,k10,e32]
def AT (f:aD->aI->aB->Option Bool):Prop:=∀a0 a1 a2 r,f a0 a1 a2=some r->∀(q:Pa) (m:M) (vs:List V) (P0:Pa) (F0 fp0 S0 C0:V),vs.map V.weak1=[.ptr P0 0,.agg ((aB.C a2))]/\m.blk P0=some (oD F0 fp0 S0 C0 a0 a1)/\eL F0 fp0 S0 C0 m.hp a0/\m.gl 0=.eptr [(cA bL.C cX)] 0 0->SC prog 179 vs q m (fun v Y=>v=.lit (.bool r)/\Y=m)
theorem pV (n:Nat):AT (iO n):=by
 rintro a0 a1 a2 r h q m vs P0 F0 fp0 S0 C0 ⟨hv,w0,t0,hg0⟩;refine SC.wv hv ?_;refine SC.apart w0 fun u0=>?_
 try simp only [go_sem] at w0
 refine eD func179 call179 ntmps179 results179 ?_;unfold iO at h;refine aL ?_;refine aF ?_;obtain ⟨y2,j2,h⟩:=aA h;refine fX 12 (fun X Y=>X 4=.lit (.bool y2)/\Y.blk P0=some (oD F0 fp0 S0 C0 a0 a1)/\Y.gl=m.gl/\Y.hp=m.hp/\m.back q Y=m) ?_ ?_
 ·rcases dD j2 with ⟨c3,j2⟩ | ⟨c3,j2⟩
  ·obtain ⟨x4,h5,j2⟩:=aA j2;refine aP fun _ z=>?_;simp only [go_sem,seval,c3];refine SC.bA (Bc n a2.cP _ h5 _ _ _) ?_;simp only [go_sem,seval];apply z;cases j2;exact jD
  ·refine aP fun _ z=>?_;simp only [go_sem,seval,c3];apply z;cases j2;exact jD
 ·intro E6 m7 e8 _;refine aO ?_;cases h;exact jS
def Bv (f:aD->aI->aB->aH->Option (aH × aD × aI)):Prop:=∀a0 a1 a2 a3 r,f a0 a1 a2 a3=some r->∀(q:Pa) (m:M) (vs:List V) (P0:Pa) (F0 fp0 S0 C0:V),vs.map V.weak1=[.ptr P0 0,.agg ((aB.C a2)),.agg ([.lit (.string (bs a3.kL)),.lit (.int .i64 a3.lO),.lit (.int .i64 a3.pP),.nilv,.list .none (a3.eK.map aH.C),.list .none (a3.sX.map aH.C),.lit (.int .i64 a3.fR)])]/\m.blk P0=some (oD F0 fp0 S0 C0 a0 a1)/\eL F0 fp0 S0 C0 m.hp a0/\m.gl 0=.eptr [(cA bL.C cX)] 0 0->SC prog 141 vs q m (fun v Y=>∃(S:V) (h:Hp) (vr:Nat->Nat),v=.agg ((aH.C r.1))/\Y=m.ck P0 (oD F0 fp0 S C0 r.2.1 r.2.2) h vr/\eL F0 fp0 S C0 h r.2.1)
theorem AQ (n:Nat):Bv (nL n):=by
 rintro a0 a1 a2 a3 r h q m vs P0 F0 fp0 S0 C0 ⟨hv,w0,t0,hg0⟩;refine SC.wv hv ?_;refine SC.ap w0 fun u0 l0=>?_
 try simp only [go_sem] at w0 l0
 refine eD func141 call141 ntmps141 results141 ?_;unfold nL at h;refine aL ?_;refine tI (id:=(1::q)) (off:=3) (cs:=[.lit (.string (bs a3.kL)),.lit (.int .i64 a3.lO),.lit (.int .i64 a3.pP),.list .self ([].map aG.C),.list .none (a3.eK.map aH.C),.list .none (a3.sX.map aH.C),.lit (.int .i64 a3.fR)]) (by simp only [go_sem,seval]) rfl ?_;refine aF (aF ?_);obtain ⟨x4,h9,h⟩:=aA h;obtain ⟨f6,f7,f8⟩:=aZ h9;have f10:a2.aM[0]? = some x4:=f8;obtain ⟨x5,h11,h⟩:=aA h;refine aP fun _ z=>?_;simp only [go_sem,seval,f6,f7,f10];refine SC.bA (pV n a0 a1 x4 _ h11 _ _ _ P0 F0 fp0 S0 C0) ?_;simp only [go_sem,seval];apply z;refine bH h (fun c12 h=>?_) (fun c12 h=>?_)
 ·refine aF ?_;obtain ⟨x13,h14,h⟩:=aA h;refine BM [0,0,2,6,14,0,63,127] 6 [] rfl (by kernel_rfl) fun _ z=>?_;rw [show List.range 6=[0,1,2,3,4,5] from rfl];simp only [go_sem,seval,f6,f7,f10,c12];refine SC.mono (oT n a0 a1 x4 ({ a3 with aM:=[] }:aH) (-1:Int) _ h14 _ _ _ P0 F0 fp0 S0 C0 (by simp only [go_sem,seval,eO u0,t0,w0,hg0])) ?_;rintro _ _ ⟨h_x13,vr_x13,rfl,rfl,hk_x13⟩;simp only [go_sem,seval,eO u0];apply z;refine aL ?_;refine aF (aL ?_);refine bH h (fun c15 h=>?_) (fun c15 h=>?_)
  ·refine aL ?_;refine aO ?_
   try simp only [aT]
   cases h;refine ⟨by simp,?_⟩;simp only [go_sem,seval,eO u0];refine ⟨S0,_,_,Fr.to (q:=q) (p:=P0) ?_ u0 (by simp only [go_sem,seval,eO u0]),?_⟩
   ·simp only [go_sem]
   ·simp only [go_sem,hk_x13]
  ·refine aU ?_
   refine aF ?_;have s18:=(eL.funcsR hk_x13);obtain ⟨x16,h22,h⟩:=aA h;obtain ⟨f19,f20,f21⟩:=aZ h22;obtain ⟨p17,g17,n17,k17⟩:=eL.foc hk_x13 f21;obtain ⟨z17,s23,s24,s25,s26,s27,s28,s29⟩:=k17.rows;refine eC (o0 [0,1,2,3,4,5,6,7,8,9,10]) 37 fun _ z=>?_;simp only [go_sem,seval,eO u0,c15,s18.ld,sZ.ix (P:=prog) (k:=.i64) (eL.funcsR hk_x13) Ku f19 f20,s25,k17.hF];apply z;refine aF ?_;obtain ⟨x30,h31,h⟩:=aA h;refine aP fun _ z=>?_;simp only [go_sem,seval,eO u0];refine SC.bA (aS x13.2.1 x13.2.2 (x16.cR != 0) 132 a2.fR _ h31 _ _ _ P0 F0 fp0 S0 C0) ?_;simp only [go_sem,seval];apply z;refine aF ?_;obtain ⟨x32,h33,h⟩:=aA h;refine aP fun _ z=>?_;simp only [go_sem,seval,eO u0];refine SC.mono (gJ n x13.2.1 x30 (bB.mk a2.cP x16.cR 0) a2.fR _ h33 _ _ _ P0 F0 fp0 S0 C0 (by simp only [go_sem,seval,hk_x13])) ?_;rintro _ _ ⟨S_x32,h_x32,vr_x32,rfl,rfl,hk_x32⟩;simp only [go_sem,seval,eO u0];apply z;refine aL ?_;refine aO ?_
   try simp only [aT]
   cases h;refine ⟨by simp,?_⟩;simp only [go_sem,seval,eO u0];refine ⟨S_x32,_,_,Fr.to (q:=q) (p:=P0) ?_ u0 (by simp only [go_sem,seval,eO u0]),?_⟩
   ·simp only [go_sem]
   ·simp only [go_sem,hk_x32]
 ·refine aU ?_
  refine aF ?_;obtain ⟨x34,h36,h⟩:=aA h;refine aP fun _ z=>?_;simp only [go_sem,seval,f6,f7,f10,c12];refine SC.bA (jL n a0 a1 x4 _ h36 _ _ _ P0 F0 fp0 S0 C0) ?_;simp only [go_sem,seval];apply z;refine aF (BN [(2,0),(3,0),(0,1),(1,0),(4,0),(5,0)] 23 ?_);refine aF ?_;obtain ⟨x37,h39,h⟩:=aA h;obtain ⟨x38,h40,h⟩:=aA h;refine BM [0,0,2,0,8,24,62,0,128,511,1023,2047] 9 [] rfl (by kernel_rfl) fun _ z=>?_;rw [show List.range 9=[0,1,2,3,4,5,6,7,8] from rfl];simp only [go_sem,seval,eO u0];refine Qp (CN x34.1.cM _ h39 _ _ _ (by simp only [go_sem])) ?_;simp only [go_sem,seval,eO u0];refine SC.mono (gJ n a0 x34.2 (bB.mk a2.cP x37 0) a2.fR _ h40 _ _ _ P0 F0 fp0 S0 C0 (by simp only [go_sem,seval,eO u0,t0])) ?_;rintro _ _ ⟨S_x38,h_x38,vr_x38,rfl,rfl,hk_x38⟩;simp only [go_sem,seval,eO u0];apply z;refine aL ?_;refine aO ?_;cases h;refine ⟨by simp,?_⟩;simp only [go_sem,seval,eO u0];refine ⟨S_x38,_,_,Fr.to (q:=q) (p:=P0) ?_ u0 (by simp only [go_sem,seval,eO u0]),?_⟩
  ·simp only [go_sem]
  ·simp only [go_sem,hk_x38]
def zZ (f:aD->aI->aB->Option (Int × aI)):Prop:=∀a0 a1 a2 r,f a0 a1 a2=some r->∀(q:Pa) (m:M) (vs:List V) (P0:Pa) (F0 fp0 S0 C0:V),vs.map V.weak1=[.ptr P0 0,.agg ((aB.C a2))]/\m.blk P0=some (oD F0 fp0 S0 C0 a0 a1)/\eL F0 fp0 S0 C0 m.hp a0->SC prog 181 vs q m (fun v Y=>v=.lit (.int .i64 r.1)/\Y=(m.set P0 (oD F0 fp0 S0 C0 a0 r.2)))
theorem yY (n:Nat):zZ (lH n):=by
 rintro a0 a1 a2 r h q m vs P0 F0 fp0 S0 C0 ⟨hv,w0,t0⟩;refine SC.wv hv ?_;refine SC.ap w0 fun u0 l0=>?_
 try simp only [go_sem] at w0 l0
 refine eD func181 call181 ntmps181 results181 ?_;unfold lH at h;refine aL ?_;refine aF ?_;obtain ⟨x2,h3,h⟩:=aA h;refine aP fun _ z=>?_;simp only [go_sem,seval];refine SC.bA (lG n a0 a1 a2 _ h3 _ _ _ P0 F0 fp0 S0 C0) ?_;simp only [go_sem,seval];apply z;refine aF ?_;obtain ⟨x4,h5,h⟩:=aA h;refine aP fun _ z=>?_;simp only [go_sem,seval];refine SC.bA (gN a0 x2.2 x2.1 _ h5 _ _ _ P0 F0 fp0 S0 C0) ?_;simp only [go_sem,seval];apply z;refine aF ?_;obtain ⟨y6,j6,h⟩:=aA h;refine fX 20 (fun X Y=>X 5=.lit (.int .i64 x2.1)/\Y.blk P0=some (oD F0 fp0 S0 C0 a0 y6)/\Y.gl=m.gl/\Y.hp=m.hp/\m.back q Y=(m.set P0 (oD F0 fp0 S0 C0 a0 y6))) ?_ ?_
 ·rcases dD j6 with ⟨c7,j6⟩ | ⟨c7,j6⟩
  ·obtain ⟨x8,h9,j6⟩:=aA j6;refine aP fun _ z=>?_;simp only [go_sem,seval,eO u0,c7];refine SC.bA (aS a0 x2.2 true 132 a2.fR _ h9 _ _ _ P0 F0 fp0 S0 C0) ?_;simp only [go_sem,seval];apply z;cases j6;exact jD
  ·obtain ⟨x10,h11,j6⟩:=aA j6;refine aP fun _ z=>?_;simp only [go_sem,seval,eO u0,c7];refine SC.bA (aS a0 x2.2 (x4 == 3) 132 a2.fR _ h11 _ _ _ P0 F0 fp0 S0 C0) ?_;simp only [go_sem,seval];apply z;cases j6;exact jD
 ·intro E12 m13 e14 _;refine aL ?_;refine aO ?_;cases h;exact jS
def Df (f:aD->aI->aB->aH->Option (aH × aD × aI)):Prop:=∀a0 a1 a2 a3 r,f a0 a1 a2 a3=some r->∀(q:Pa) (m:M) (vs:List V) (P0:Pa) (F0 fp0 S0 C0:V),vs.map V.weak1=[.ptr P0 0,.agg ((aB.C a2)),.agg ([.lit (.string (bs a3.kL)),.lit (.int .i64 a3.lO),.lit (.int .i64 a3.pP),.nilv,.list .none (a3.eK.map aH.C),.list .none (a3.sX.map aH.C),.lit (.int .i64 a3.fR)])]/\m.blk P0=some (oD F0 fp0 S0 C0 a0 a1)/\eL F0 fp0 S0 C0 m.hp a0/\m.gl 0=.eptr [(cA bL.C cX)] 0 0->SC prog 142 vs q m (fun v Y=>∃(h:Hp) (vr:Nat->Nat),v=.agg ((aH.C r.1))/\Y=m.ck P0 (oD F0 fp0 S0 C0 r.2.1 r.2.2) h vr/\eL F0 fp0 S0 C0 h r.2.1)
theorem Ci (n:Nat):Df (oX n):=by
 rintro a0 a1 a2 a3 r h q m vs P0 F0 fp0 S0 C0 ⟨hv,w0,t0,hg0⟩;refine SC.wv hv ?_;refine SC.ap w0 fun u0 l0=>?_
 try simp only [go_sem] at w0 l0
 refine eD func142 call142 ntmps142 results142 ?_;unfold oX at h;refine aL ?_;refine tI (id:=(1::q)) (off:=3) (cs:=[.lit (.string (bs a3.kL)),.lit (.int .i64 a3.lO),.lit (.int .i64 a3.pP),.list .self ([].map aG.C),.list .none (a3.eK.map aH.C),.list .none (a3.sX.map aH.C),.lit (.int .i64 a3.fR)]) (by simp only [go_sem,seval]) rfl ?_;refine aF ?_;obtain ⟨x4,h5,h⟩:=aA h;refine aP fun _ z=>?_;simp only [go_sem,seval];refine SC.bA (yY n a0 a1 a2 _ h5 _ _ _ P0 F0 fp0 S0 C0) ?_;simp only [go_sem,seval];apply z;refine aF (aF ?_);obtain ⟨x6,h11,h⟩:=aA h;obtain ⟨f8,f9,f10⟩:=aZ h11;have f12:a2.aM[0]? = some x6:=f10;obtain ⟨x7,h13,h⟩:=aA h;refine aP fun _ z=>?_;simp only [go_sem,seval,eO u0,f8,f9,f12];refine SC.bA (pV n a0 x4.2 x6 _ h13 _ _ _ P0 F0 fp0 S0 C0) ?_;simp only [go_sem,seval];apply z;refine bH h (fun c14 h=>?_) (fun c14 h=>?_)
 ·refine aF ?_;obtain ⟨x15,h16,h⟩:=aA h;refine BM [0,0,2,6,14,0,0,127,255] 7 [] rfl (by kernel_rfl) fun _ z=>?_;rw [show List.range 7=[0,1,2,3,4,5,6] from rfl];simp only [go_sem,seval,eO u0,f8,f9,f12,c14];refine SC.mono (oT n a0 x4.2 x6 ({ a3 with aM:=[] }:aH) x4.1 _ h16 _ _ _ P0 F0 fp0 S0 C0 (by simp only [go_sem,seval,t0,hg0])) ?_;rintro _ _ ⟨h_x15,vr_x15,rfl,rfl,hk_x15⟩;simp only [go_sem,seval,eO u0];apply z;refine aL ?_;refine aF (aL ?_);refine bH h (fun c17 h=>?_) (fun c17 h=>?_)
  ·obtain ⟨x18,h22,h⟩:=aA h;have s23:=(eL.funcsR hk_x15);obtain ⟨x19,h27,h⟩:=aA h;obtain ⟨f24,f25,f26⟩:=aZ h27;obtain ⟨p20,g20,n20,k20⟩:=eL.foc hk_x15 f26;obtain ⟨z20,s28,s29,s30,s31,s32,s33,s34⟩:=k20.rows;obtain ⟨x21,h35,h⟩:=aA h;refine eC [(11,0),(12,0),(13,0),(0,0),(1,0),(2,0),(3,0),(4,0),(5,1),(6,0),(7,1),(8,0),(9,0),(10,1),(14,0),(15,0),(16,1),(17,0)] 49 fun _ z=>?_;simp only [go_sem,seval,c17];refine sF (gN x15.2.1 x15.2.2 x4.1 _ h22 _ _ _ P0 F0 fp0 S0 C0) ?_;simp only [go_sem,seval,eO u0,s23.ld,sZ.ix (P:=prog) (k:=.i64) (eL.funcsR hk_x15) Ku f24 f25,s30,k20.hF];refine sF (aS x15.2.1 x15.2.2 (x19.cR == x18) 132 a2.fR _ h35 _ _ _ P0 F0 fp0 S0 C0) ?_;simp only [go_sem];apply z;refine aL ?_;refine aO ?_
   try simp only [aT]
   cases h;refine ⟨by simp,?_⟩;simp only [go_sem,seval,eO u0];refine ⟨_,_,Fr.to (q:=q) (p:=P0) ?_ u0 (by simp only [go_sem,seval,eO u0]),?_⟩
   ·simp only [go_sem]
   ·simp only [go_sem,hk_x15]
  ·refine aU ?_
   refine aL ?_;refine aO ?_
   try simp only [aT]
   cases h;refine ⟨by simp,?_⟩;simp only [go_sem,seval,eO u0];refine ⟨_,_,Fr.to (q:=q) (p:=P0) ?_ u0 (by simp only [go_sem,seval,eO u0]),?_⟩
   ·simp only [go_sem]
   ·simp only [go_sem,hk_x15]
 ·refine aU ?_
  refine aF ?_;obtain ⟨x36,h38,h⟩:=aA h;refine aP fun _ z=>?_;simp only [go_sem,seval,eO u0,f8,f9,f12,c14];refine SC.bA (jL n a0 x4.2 x6 _ h38 _ _ _ P0 F0 fp0 S0 C0) ?_;simp only [go_sem,seval];apply z;refine aF (BN [(3,0),(4,0),(0,0),(5,0),(6,0),(1,2),(2,0),(7,0),(8,0)] 30 ?_);refine aF ?_;obtain ⟨x39,h42,h⟩:=aA h;obtain ⟨x40,h43,h⟩:=aA h;obtain ⟨x41,h44,h⟩:=aA h;refine eC [(3,0),(4,0),(5,0),(1,0),(2,1),(6,0),(0,0),(7,0),(8,2),(9,0)] 40 fun _ z=>?_;simp only [go_sem,seval];refine sF (gN a0 x36.2 x4.1 _ h42 _ _ _ P0 F0 fp0 S0 C0) ?_;simp only [go_sem,seval];refine sF (wP x36.1.cM x39 _ h43 _ _ _) ?_;simp only [go_sem,seval,eO u0];refine sF (aS a0 x36.2 x40 132 a2.fR _ h44 _ _ _ P0 F0 fp0 S0 C0) ?_;simp only [go_sem];apply z;refine aL ?_;refine aO ?_;cases h;refine ⟨by simp,?_⟩;simp only [go_sem,seval];refine ⟨_,_,Fr.to (q:=q) (p:=P0) ?_ u0 (by simp only [go_sem,seval,eO u0]),?_⟩
  ·simp only [go_sem]
  ·simp only [go_sem,t0]
def Bt (f:aD->aI->aB->Int->Option (aG × aI)):Prop:=∀a0 a1 a2 a3 r,f a0 a1 a2 a3=some r->∀(q:Pa) (m:M) (vs:List V) (P0:Pa) (F0 fp0 S0 C0:V),vs.map V.weak1=[.ptr P0 0,.agg ((aB.C a2)),.lit (.int .i64 a3)]/\m.blk P0=some (oD F0 fp0 S0 C0 a0 a1)/\eL F0 fp0 S0 C0 m.hp a0/\m.gl 0=.eptr [(cA bL.C cX)] 0 0->SC prog 185 vs q m (fun v Y=>v=.agg ((aG.C r.1))/\Y=(m.set P0 (oD F0 fp0 S0 C0 a0 r.2)))
theorem AP (n:Nat):Bt (nK n):=by
 rintro a0 a1 a2 a3 r h q m vs P0 F0 fp0 S0 C0 ⟨hv,w0,t0,hg0⟩;refine SC.wv hv ?_;refine SC.ap w0 fun u0 l0=>?_
 try simp only [go_sem] at w0 l0
 refine eD func185 call185 ntmps185 results185 ?_;unfold nK at h;refine aL ?_;refine aF ?_;obtain ⟨x3,h5,h⟩:=aA h;refine aP fun _ z=>?_;simp only [go_sem,seval];refine SC.bA (iK n a0 a1 a2 _ h5 _ _ _ P0 F0 fp0 S0 C0) ?_;simp only [go_sem,seval];apply z;refine aF (aF ?_);obtain ⟨y6,j6,h⟩:=aA h;refine fX 17 (fun X Y=>X 0=.ptr P0 0/\X 2=.lit (.int .i64 a3)/\X 4=.ptr (0::q) 0/\X 6=.ptr (1::q) 0/\X 7=.ptr (5::q) 0/\X 20=.lit (.bool y6)/\Y.blk P0=some (oD F0 fp0 S0 C0 a0 x3.2)/\Y.blk (0::q)=some ((aB.C a2))/\Y.blk (1::q)=some ([.lit (.string (bs [])),.lit (.int .i64 0),.lit (.int .u32 0),.lit (.int .i64 0),.list .self ([].map aG.C),.lit (.int .i64 0)])/\Y.blk (5::q)=some ((aG.C x3.1))/\Y.gl=m.gl/\Y.hp=m.hp/\m.back q Y=(m.set P0 (oD F0 fp0 S0 C0 a0 x3.2))) ?_ ?_
 ·rcases dD j6 with ⟨c7,j6⟩ | ⟨c7,j6⟩
  ·refine aP fun _ z=>?_;simp only [go_sem,seval,eO u0,c7];apply z;cases j6;exact jD
  ·refine aP fun _ z=>?_;simp only [go_sem,seval,eO u0,c7];apply z;cases j6;exact jD
 ·intro E8 m9 e10 _;refine bH h (fun c11 h=>?_) (fun c11 h=>?_)
  ·obtain ⟨x12,h20,h⟩:=aA h;obtain ⟨f17,f18,f19⟩:=aZ h20;obtain ⟨p13,g13,n13,k13⟩:=eL.foc t0 f19;obtain ⟨z13,s21,s22,s23,s24,s25,s26,s27⟩:=k13.rows;have s28:=(eL.funcsR t0);have s14:=eL.fpEq t0 f17;have s29:eL F0 (.pp (oL F0) (a0.f_.toNat*6)) S0 C0 m.hp a0:=by rw [←s14];exact t0
   have s30:=(fD.shC k13.vars);obtain ⟨x15,h34,h⟩:=aA h;obtain ⟨f31,f32,f33⟩:=aZ h34;obtain ⟨H39,rs_H39,s35,s36,s37,s38⟩:=fD.readVar k13.vars f33;obtain ⟨x16,h40,h⟩:=aA h;refine eC (o0 [0,1,2,3,4,5,6,7,8,9,10,11,12,13,14,15,16,17,18]) 36 fun _ z=>?_;simp only [go_sem,seval,s25,k13.hF,s14,sZ.ix (P:=prog) (k:=.i64) (fD.shC k13.vars) GX f31 f32,s35,s38,e10];refine sF (aS a0 x3.2 (decide ((i64.wrap x3.1.N_)<x15.jB)) 137 a2.fR _ h40 _ _ _ P0 F0 fp0 S0 C0) ?_;simp only [go_sem,s14];apply z;refine aL ?_;refine aO ?_;cases h;exact jS
  ·refine aU ?_
   refine aL ?_;refine aO ?_;cases h;exact jS
def Dg (f:aD->aI->aB->aH->Option (aH × aI)):Prop:=∀a0 a1 a2 a3 r,f a0 a1 a2 a3=some r->∀(q:Pa) (m:M) (vs:List V) (P0:Pa) (F0 fp0 S0 C0:V),vs.map V.weak1=[.ptr P0 0,.agg ((aB.C a2)),.agg ([.lit (.string (bs a3.kL)),.lit (.int .i64 a3.lO),.lit (.int .i64 a3.pP),.nilv,.list .none (a3.eK.map aH.C),.list .none (a3.sX.map aH.C),.lit (.int .i64 a3.fR)])]/\m.blk P0=some (oD F0 fp0 S0 C0 a0 a1)/\eL F0 fp0 S0 C0 m.hp a0/\m.gl 0=.eptr [(cA bL.C cX)] 0 0->SC prog 143 vs q m (fun v Y=>v=.agg ((aH.C r.1))/\Y=(m.set P0 (oD F0 fp0 S0 C0 a0 r.2)))
theorem Cj (n:Nat):Dg (oY n):=by
 rintro a0 a1 a2 a3 r h q m vs P0 F0 fp0 S0 C0 ⟨hv,w0,t0,hg0⟩;refine SC.wv hv ?_;refine SC.ap w0 fun u0 l0=>?_
 try simp only [go_sem] at w0 l0
 refine eD func143 call143 ntmps143 results143 ?_;unfold oY at h;refine aL ?_;refine tI (id:=(1::q)) (off:=3) (cs:=[.lit (.string (bs a3.kL)),.lit (.int .i64 a3.lO),.lit (.int .i64 a3.pP),.list .self ([].map aG.C),.list .none (a3.eK.map aH.C),.list .none (a3.sX.map aH.C),.lit (.int .i64 a3.fR)]) (by simp only [go_sem,seval]) rfl ?_;refine aF ?_;obtain ⟨x4,h5,h⟩:=aA h;refine aP fun _ z=>?_;simp only [go_sem,seval];refine SC.bA (lG n a0 a1 a2 _ h5 _ _ _ P0 F0 fp0 S0 C0) ?_;simp only [go_sem,seval];apply z;refine aF ?_;obtain ⟨x6,h8,h⟩:=aA h;obtain ⟨x7,h9,h⟩:=aA h;refine eC [(1,0),(2,0),(3,0),(0,0),(4,0),(5,0),(6,1),(7,0)] 15 fun _ z=>?_;simp only [go_sem,seval];refine sF (gN a0 x4.2 x4.1 _ h8 _ _ _ P0 F0 fp0 S0 C0) ?_;simp only [go_sem,seval,eO u0];refine sF (aS a0 x4.2 (x6 == 4) 132 a2.fR _ h9 _ _ _ P0 F0 fp0 S0 C0) ?_;simp only [go_sem];apply z;refine aF ?_;obtain ⟨x10,h16,h⟩:=aA h;obtain ⟨f13,f14,f15⟩:=aZ h16;have f17:a2.aM[0]? = some x10:=f15;obtain ⟨x11,h18,h⟩:=aA h;refine aP fun _ z=>?_;simp only [go_sem,seval,eO u0,f13,f14,f17];refine SC.bA (AP n a0 x7 x10 x4.1 _ h18 _ _ _ P0 F0 fp0 S0 C0) ?_;simp only [go_sem,seval];apply z;refine aF ?_;obtain ⟨x19,h25,h⟩:=aA h;obtain ⟨f22,f23,f24⟩:=aZ h25;have f26:a2.aM[1]? = some x19:=f24;obtain ⟨x20,h27,h⟩:=aA h;refine aP fun _ z=>?_;simp only [go_sem,seval,eO u0,f22,f23,f26];refine SC.bA (jL n a0 x11.2 x19 _ h27 _ _ _ P0 F0 fp0 S0 C0) ?_;simp only [go_sem,seval];apply z;refine aF (BN [(4,0),(5,0),(0,0),(6,0),(7,0),(1,2),(2,2),(3,0),(8,0),(9,0)] 42 ?_);refine aF ?_;obtain ⟨x28,h30,h⟩:=aA h;obtain ⟨x29,h31,h⟩:=aA h;refine eC [(1,0),(2,0),(3,0),(0,0),(4,0),(5,1),(6,0)] 49 fun _ z=>?_;simp only [go_sem,seval];refine sF (wP x20.1.cM 2 _ h30 _ _ _) ?_;simp only [go_sem,seval,eO u0];refine sF (aS a0 x20.2 x28 132 a2.fR _ h31 _ _ _ P0 F0 fp0 S0 C0) ?_;simp only [go_sem];apply z;refine aL ?_;refine aO ?_;cases h;exact jS
def Cv (f:aD->aI->aB->aH->Bool->Option (aH × aD × aI)):Prop:=∀a0 a1 a2 a3 a4 r,f a0 a1 a2 a3 a4=some r->∀(q:Pa) (m:M) (vs:List V) (P0:Pa) (F0 fp0 S0 C0:V),vs.map V.weak1=[.ptr P0 0,.agg ((aB.C a2)),.agg ([.lit (.string (bs a3.kL)),.lit (.int .i64 a3.lO),.lit (.int .i64 a3.pP),.nilv,.list .none (a3.eK.map aH.C),.list .none (a3.sX.map aH.C),.lit (.int .i64 a3.fR)]),.lit (.bool a4)]/\m.blk P0=some (oD F0 fp0 S0 C0 a0 a1)/\eL F0 fp0 S0 C0 m.hp a0/\m.gl 0=.eptr [(cA bL.C cX)] 0 0->SC prog 146 vs q m (fun v Y=>∃(h:Hp) (vr:Nat->Nat),v=.agg ((aH.C r.1))/\Y=m.ck P0 (oD F0 fp0 S0 C0 r.2.1 r.2.2) h vr/\eL F0 fp0 S0 C0 h r.2.1)
theorem BA (n:Nat):Cv (oK n):=by
 rintro a0 a1 a2 a3 a4 r h q m vs P0 F0 fp0 S0 C0 ⟨hv,w0,t0,hg0⟩;refine SC.wv hv ?_;refine SC.ap w0 fun u0 l0=>?_
 try simp only [go_sem] at w0 l0
 refine eD func146 call146 ntmps146 results146 ?_;unfold oK at h;refine aL ?_;refine tI (id:=(1::q)) (off:=3) (cs:=[.lit (.string (bs a3.kL)),.lit (.int .i64 a3.lO),.lit (.int .i64 a3.pP),.list .self ([].map aG.C),.list .none (a3.eK.map aH.C),.list .none (a3.sX.map aH.C),.lit (.int .i64 a3.fR)]) (by simp only [go_sem,seval]) rfl ?_;refine aF ?_;obtain ⟨y4,j4,h⟩:=aA h;refine fX 18 (fun X Y=>X 0=.ptr P0 0/\X 5=.ptr (0::q) 0/\X 6=.ptr (1::q) 0/\X 8=.ptr (2::q) 0/\Y.blk P0=some (oD F0 fp0 S0 C0 a0 y4)/\eL F0 fp0 S0 C0 Y.hp a0/\Y.blk (0::q)=some ((aB.C a2))/\Y.blk (1::q)=some ([.lit (.string (bs a3.kL)),.lit (.int .i64 a3.lO),.lit (.int .i64 a3.pP),.nilv,.list .none (a3.eK.map aH.C),.list .none (a3.sX.map aH.C),.lit (.int .i64 a3.fR)])/\Y.blk (2::q)=some ([.lit (.string (bs [])),.lit (.int .i64 0),.lit (.int .i64 0),.list .self ([].map aG.C),.list .self ([].map aH.C),.list .self ([].map aH.C),.lit (.int .i64 0)])/\Y.gl=m.gl/\Fr q P0 m Y/\Y.hp=m.hp) ?_ ?_
 ·rcases dD j4 with ⟨c5,j4⟩ | ⟨c5,j4⟩
  ·obtain ⟨x6,h13,j4⟩:=aA j4;obtain ⟨f10,f11,f12⟩:=aZ h13;obtain ⟨p7,g7,n7,k7⟩:=eL.foc t0 f12;obtain ⟨z7,s14,s15,s16,s17,s18,s19,s20⟩:=k7.rows;have s21:=(eL.funcsR t0);have s8:=eL.fpEq t0 f10;have s22:eL F0 (.pp (oL F0) (a0.f_.toNat*6)) S0 C0 m.hp a0:=by rw [←s8];exact t0
   obtain ⟨x9,h23,j4⟩:=aA j4;refine eC (o0 [0,1,2,3,4,5,6,7,8,9,10,11,12,13,14]) 18 fun _ z=>?_;simp only [go_sem,seval,eO u0,c5,s16,k7.hF,s8,w0];refine sF (aS a0 a1 (x6.cR != 0) 135 a2.fR _ h23 _ _ _ P0 F0 fp0 S0 C0) ?_;simp only [go_sem,s8];apply z;simp only [aK];cases j4;exact jD
  ·obtain ⟨x24,h25,j4⟩:=aA j4;refine eC (o0 [0,1,2,3,4,5,6,7,8,9,10,11,12,13,14]) 18 fun _ z=>?_;simp only [go_sem,seval,c5];refine sF (aS a0 a1 false 135 a2.fR _ h25 _ _ _ P0 F0 fp0 S0 C0) ?_;simp only [go_sem];apply z;simp only [aK];cases j4;exact jD
 ·intro E26 m27 e28 _;refine aF (aF ?_);obtain ⟨y29,j29,h⟩:=aA h;refine fX 31 (fun X Y=>X 0=.ptr P0 0/\X 5=.ptr (0::q) 0/\X 6=.ptr (1::q) 0/\X 8=.ptr (2::q) 0/\X 37=.lit (.bool y29)/\Y.blk P0=some (oD F0 fp0 S0 C0 a0 y4)/\eL F0 fp0 S0 C0 Y.hp a0/\Y.blk (0::q)=some ((aB.C a2))/\Y.blk (1::q)=some ([.lit (.string (bs a3.kL)),.lit (.int .i64 a3.lO),.lit (.int .i64 a3.pP),.nilv,.list .none (a3.eK.map aH.C),.list .none (a3.sX.map aH.C),.lit (.int .i64 a3.fR)])/\Y.blk (2::q)=some ([.lit (.string (bs [])),.lit (.int .i64 0),.lit (.int .i64 0),.list .self ([].map aG.C),.list .self ([].map aH.C),.list .self ([].map aH.C),.lit (.int .i64 0)])/\Y.gl=m.gl/\Fr q P0 m Y/\Y.hp=m.hp) ?_ ?_
  ·rcases dD j29 with ⟨c30,j29⟩ | ⟨c30,j29⟩
   ·obtain ⟨x31,h36,j29⟩:=aA j29;obtain ⟨f33,f34,f35⟩:=aZ h36;have f37:a2.aM[0]? = some x31:=f35;obtain ⟨x32,h38,j29⟩:=aA j29;refine aP fun _ z=>?_;simp only [go_sem,seval,c30,f33,f34,f37,e28];refine SC.bA (pV n a0 y4 x31 _ h38 _ _ _ P0 F0 fp0 S0 C0) ?_;simp only [go_sem,seval];apply z;cases j29;exact jD
   ·refine aP fun _ z=>?_;simp only [go_sem,seval,c30,e28];apply z;cases j29;exact jD
  ·intro E39 m40 e41 _;refine bH h (fun c42 h=>?_) (fun c42 h=>?_)
   ·refine aF ?_;obtain ⟨x43,h48,h⟩:=aA h;obtain ⟨f45,f46,f47⟩:=aZ h48;have f49:a2.aM[0]? = some x43:=f47;obtain ⟨x44,h50,h⟩:=aA h;refine BM [0,0,2,6,14,0,63,127] 6 [] rfl (by kernel_rfl) fun _ z=>?_;rw [show List.range 6=[0,1,2,3,4,5] from rfl];simp only [go_sem,seval,f45,f46,f49,e41];refine SC.mono (oT n a0 y4 x43 ({ a3 with aM:=[] }:aH) (-2:Int) _ h50 _ _ _ P0 F0 fp0 S0 C0 (by simp only [go_sem,t0,e41,hg0])) ?_;rintro _ _ ⟨h_x44,vr_x44,rfl,rfl,hk_x44⟩;simp only [go_sem,seval,eO u0,e41];apply z;refine aL ?_;refine aF (aL ?_);refine bH h (fun c51 h=>?_) (fun c51 h=>?_)
    ·have s58:=(eL.funcsR hk_x44);obtain ⟨x52,h62,h⟩:=aA h;obtain ⟨f59,f60,f61⟩:=aZ h62;obtain ⟨p53,g53,n53,k53⟩:=eL.foc hk_x44 f61;obtain ⟨z53,s63,s64,s65,s66,s67,s68,s69⟩:=k53.rows;obtain ⟨x54,h73,h⟩:=aA h;obtain ⟨f70,f71,f72⟩:=aZ h73;obtain ⟨p55,g55,n55,k55⟩:=eL.foc hk_x44 f72;have hHF:=k53.hF.symm.trans k55.hF
     injection hHF with hHF
     subst hHF;obtain ⟨z55,s74,s75,s76,s77,s78,s79,s80⟩:=k55.rows;have s56:=eL.fpEq hk_x44 f70;have s81:eL F0 (.pp (oL F0) (x44.2.1.f_.toNat*6)) S0 C0 h_x44 x44.2.1:=by rw [←s56];exact hk_x44
     obtain ⟨x57,h82,h⟩:=aA h;refine eC (o0 [0,1,2,3,4,5,6,7,8,9,10,11,12,13,14,15,16,17,18,19,20,21]) 70 fun _ z=>?_;simp only [go_sem,seval,eO u0,c51,s58.ld,sZ.ix (P:=prog) (k:=.i64) (eL.funcsR hk_x44) Ku f59 f60,s65,k53.hF,s76,s56,e41];refine sF (aS x44.2.1 x44.2.2 (x52.cR == x54.cR) 132 a2.fR _ h82 _ _ _ P0 F0 fp0 S0 C0) ?_;simp only [go_sem,s56];apply z;refine aL ?_;refine aO ?_
     try simp only [aT]
     cases h;refine ⟨by simp,?_⟩;simp only [go_sem,seval,eO u0,s56,e41];refine ⟨_,_,Fr.to (q:=q) (p:=P0) ?_ u0 (by simp only [go_sem,seval,eO u0]),?_⟩
     ·simp only [go_sem,e41]
     ·simp only [go_sem,s81]
    ·refine aU ?_
     refine aL ?_;refine aO ?_
     try simp only [aT]
     cases h;refine ⟨by simp,?_⟩;simp only [go_sem,seval,eO u0,e41];refine ⟨_,_,Fr.to (q:=q) (p:=P0) ?_ u0 (by simp only [go_sem,seval,eO u0]),?_⟩
     ·simp only [go_sem,e41]
     ·simp only [go_sem,hk_x44]
   ·refine aU ?_
    refine aF ?_;obtain ⟨x83,h89,h⟩:=aA h;obtain ⟨f86,f87,f88⟩:=aZ h89;have f90:a2.aM[0]? = some x83:=f88;obtain ⟨x84,h91,h⟩:=aA h;refine aP fun _ z=>?_;simp only [go_sem,seval,f86,f87,f90,e41];refine SC.bA (jL n a0 y4 x83 _ h91 _ _ _ P0 F0 fp0 S0 C0) ?_;simp only [go_sem,seval];apply z;refine aF (BN [(2,0),(3,0),(0,1),(1,0),(4,0),(5,0)] 45 ?_);refine aF ?_;obtain ⟨x92,h100,h⟩:=aA h;obtain ⟨f97,f98,f99⟩:=aZ h100;obtain ⟨p93,g93,n93,k93⟩:=eL.foc t0 f99;obtain ⟨z93,s101,s102,s103,s104,s105,s106,s107⟩:=k93.rows;have s108:=(eL.funcsR t0);have s94:=eL.fpEq t0 f97;have s109:eL F0 (.pp (oL F0) (a0.f_.toNat*6)) S0 C0 m.hp a0:=by rw [←s94];exact t0
    obtain ⟨x95,h110,h⟩:=aA h;obtain ⟨x96,h111,h⟩:=aA h;refine eC [(1,0),(2,0),(3,0),(4,0),(5,0),(6,0),(7,0),(8,0),(9,0),(10,0),(0,0),(11,0),(12,1),(13,0)] 59 fun _ z=>?_;simp only [go_sem,seval,eO u0,s103,k93.hF,s94,e41];refine sF (wP x84.1.cM x92.cR _ h110 _ _ _) ?_;simp only [go_sem,seval,eO u0,e41];refine sF (aS a0 x84.2 x95 132 a2.fR _ h111 _ _ _ P0 F0 fp0 S0 C0) ?_;simp only [go_sem,s94];apply z;refine aL ?_;refine aO ?_;cases h;refine ⟨by simp,?_⟩;simp only [go_sem,seval,s94,e41];refine ⟨_,_,Fr.to (q:=q) (p:=P0) ?_ u0 (by simp only [go_sem,seval,eO u0]),?_⟩
    ·simp only [go_sem,e41]
    ·simp only [go_sem,s109,e41]
def lK (f:aD->aI->aB->Bool->Option ((List aH) × aD × aI)):Prop:=∀a0 a1 a2 a3 r,f a0 a1 a2 a3=some r->∀(q:Pa) (m:M) (vs:List V) (P0:Pa) (F0 fp0 S0 C0:V),vs.map V.weak1=[.ptr P0 0,.agg ((aB.C a2)),.lit (.bool a3)]/\m.blk P0=some (oD F0 fp0 S0 C0 a0 a1)/\eL F0 fp0 S0 C0 m.hp a0/\m.gl 0=.eptr [(cA bL.C cX)] 0 0->SC prog 58 vs q m (fun v Y=>∃(S:V) (h:Hp) (vr:Nat->Nat),v=.list .none (r.1.map aH.C)/\Y=m.ck P0 (oD F0 fp0 S C0 r.2.1 r.2.2) h vr/\eL F0 fp0 S C0 h r.2.1)
def pD (f:aD->aI->aB->Bool->Option (aH × aD × aI)):Prop:=∀a0 a1 a2 a3 r,f a0 a1 a2 a3=some r->∀(q:Pa) (m:M) (vs:List V) (P0:Pa) (F0 fp0 S0 C0:V),vs.map V.weak1=[.ptr P0 0,.agg ((aB.C a2)),.lit (.bool a3)]/\m.blk P0=some (oD F0 fp0 S0 C0 a0 a1)/\eL F0 fp0 S0 C0 m.hp a0/\m.gl 0=.eptr [(cA bL.C cX)] 0 0->SC prog 89 vs q m (fun v Y=>∃(S:V) (h:Hp) (vr:Nat->Nat),v=.agg ((aH.C r.1))/\Y=m.ck P0 (oD F0 fp0 S C0 r.2.1 r.2.2) h vr/\eL F0 fp0 S C0 h r.2.1)
def rQ (f:aD->aI->aB->aH->Option (aH × aD × aI)):Prop:=∀a0 a1 a2 a3 r,f a0 a1 a2 a3=some r->∀(q:Pa) (m:M) (vs:List V) (P0:Pa) (F0 fp0 S0 C0:V),vs.map V.weak1=[.ptr P0 0,.agg ((aB.C a2)),.agg ([.lit (.string (bs a3.kL)),.lit (.int .i64 a3.lO),.lit (.int .i64 a3.pP),.nilv,.list .none (a3.eK.map aH.C),.list .none (a3.sX.map aH.C),.lit (.int .i64 a3.fR)])]/\m.blk P0=some (oD F0 fp0 S0 C0 a0 a1)/\eL F0 fp0 S0 C0 m.hp a0/\m.gl 0=.eptr [(cA bL.C cX)] 0 0->SC prog 145 vs q m (fun v Y=>∃(S:V) (h:Hp) (vr:Nat->Nat),v=.agg ((aH.C r.1))/\Y=m.ck P0 (oD F0 fp0 S C0 r.2.1 r.2.2) h vr/\eL F0 fp0 S C0 h r.2.1)
theorem zA {dV} (rD:pD dV) (n:Nat):lK (lJ dV n):=by
 rintro a0 a1 a2 a3 r h q m vs P0 F0 fp0 S0 C0 ⟨hv,w0,t0,hg0⟩;refine SC.wv hv ?_;refine SC.ap w0 fun u0 l0=>?_
 try simp only [go_sem] at w0 l0
 refine eD func58 call58 ntmps58 results58 ?_;unfold lJ at h;refine aL ?_;refine aF ?_;have s2:=(eL.scopeS t0);refine aP fun _ z=>?_;simp only [go_sem,seval,gZ u0,s2.slen,s2.ld,w0];apply z;refine aL ?_;refine aF (aL ?_);refine bM ?_;obtain ⟨y8,j8,h⟩:=aA h;refine zL 8 ([].map aH.C) rfl (by simp only [go_sem,seval]) ?_;refine kX (fun c X Y=>∃v4 v5 v6 v7 o_v4 j_v4 S_v6,iW dV a2 a3 c v4 v5 v6 v7=some y8/\X 0=.ptr P0 0/\X 2=.lit (.bool a3)/\X 4=.ptr (0::q) 0/\X 7=.lit (.int .i64 (a0.bJ.length:Int))/\X 8=.list (.st (.anon o_v4 j_v4)) (v4.map aH.C)/\Y.tok o_v4 j_v4=true/\q <:+ o_v4/\X 17=.list .none (a2.aM.map aB.C)/\X 18=.lit (.int .i64 (a2.aM.length:Int))/\X 19=.lit (.int .i64 v5)/\Y.blk P0=some (oD F0 fp0 S_v6 C0 v6 v7)/\eL F0 fp0 S_v6 C0 Y.hp v6/\Y.blk (0::q)=some ((aB.C a2))/\Y.gl=m.gl/\Fr q P0 m Y) n ⟨[],0,a0,a1,(13::q),0,S0,j8,?_⟩ ?_
 ·simp only [go_sem,seval,Ee u0,gZ u0,t0,w0]
 rintro i3 c9 E10 m11 ⟨v4,v5,v6,v7,o_v4,j_v4,S_v6,j8,e12⟩ _
 rcases c9 with _ | c9
 ·cases j8
 rw [iW] at j8;have bv6:eL F0 fp0 S_v6 C0 m11.hp v6:=by simp only [e12]
 refine aL ?_;refine aF (bH j8 (fun c13 j8=>?_) (fun c13 j8=>?_))
 ·refine aU ?_
  refine aF (bM (aF ?_));obtain ⟨x14,h19,j8⟩:=aA j8;obtain ⟨f16,f17,f18⟩:=aZ h19;refine cH ?_;refine aF (aL ?_);refine bH j8 (fun c20 j8=>?_) (fun c20 j8=>?_)
  ·refine dQ ?_
   try simp only [seval,bZ,bR,aK]
   cases j8;refine aF ?_;have s24:=(eL.scopeS bv6);obtain ⟨⟨f21',f22'⟩,h⟩:=bP h;have f21:0<=(a0.bJ.length:Int):=f21';have f22:(a0.bJ.length:Int)<=(v6.bJ.length:Int):=f22';have s25:sZ (xB S_v6 (a0.bJ.length)) 1 (v6.bJ.take (a0.bJ.length)).length:=sZ.cutL (eL.scopeS bv6) f22;have k23:eL F0 fp0 (xB S_v6 (a0.bJ.length)) C0 m11.hp ({ v6 with bJ:=(v6.bJ.take (a0.bJ.length)) }:aD):=eL.cutS bv6 (by omega) rfl rfl rfl rfl;refine aP fun _ z=>?_;simp only [go_sem,seval,gZ u0,c20,s24.ld,sZ.slHi (P:=prog) (k:=.i64) (eL.scopeS bv6) Qx f21 f22,s25.cells,s25.cok,s25.st1,e12];apply z;refine sW ?_;simp only [go_sem,seval,e12];refine aO ?_;cases h;refine ⟨by simp,?_⟩;simp only [go_sem,seval];refine ⟨(xB S_v6 (a0.bJ.length)),_,_,Fr.to (q:=q) (p:=P0) ?_ u0 (by simp only [go_sem,seval]),?_⟩
   ·simp only [go_sem,e12]
   ·simp only [go_sem,k23]
  ·refine aU ?_
   try simp only [aK]
   obtain ⟨y26,j26,j8⟩:=aA j8;refine fX 28 (fun X Y=>∃(oy26_8:Pa) (jy26_8:Nat),∃(S_y26_2_1:V),X 0=.ptr P0 0/\X 2=.lit (.bool a3)/\X 4=.ptr (0::q) 0/\X 7=.lit (.int .i64 (a0.bJ.length:Int))/\X 8=.list (.st (.anon oy26_8 jy26_8)) (y26.1.map aH.C)/\Y.tok oy26_8 jy26_8=true/\q <:+ oy26_8/\X 17=.list .none (a2.aM.map aB.C)/\X 18=.lit (.int .i64 (a2.aM.length:Int))/\X 19=.lit (.int .i64 v5)/\Y.blk P0=some (oD F0 fp0 S_y26_2_1 C0 y26.2.1 y26.2.2)/\eL F0 fp0 S_y26_2_1 C0 Y.hp y26.2.1/\Y.blk (0::q)=some ((aB.C a2))/\Y.gl=m.gl/\Fr q P0 m Y) ?_ ?_
   ·rcases dD j26 with ⟨c27,j26⟩ | ⟨c27,j26⟩
    ·obtain ⟨x28,h29,j26⟩:=aA j26;refine aP fun _ z=>?_;simp only [go_sem,seval,c20,c27,e12];refine SC.mono (rD v6 v7 x14 (v5 == (i64.wrap ((a2.aM.length:Int) - 1))) _ h29 _ _ _ P0 F0 fp0 S_v6 C0 (by simp only [go_sem,seval,gZ u0,bv6,e12,hg0])) ?_;rintro _ _ ⟨S_x28,h_x28,vr_x28,rfl,rfl,hk_x28⟩;obtain ⟨f30,j26⟩:=bP j26;have f31:v4.length+1<=1073741824:=by first | omega | (simp only [nC,jC,lA] at f30 ⊢;omega)
     have f32:v4.length<=1073741823:=by first | omega | (simp only [nC,jC,lA] at f30 ⊢;omega)
     simp only [go_sem,seval,f31,e12];apply z;cases j26;refine ⟨by decide,(26::i3::14::q),0,S_x28,?_⟩;simp only [go_sem,seval,Ee u0,gZ u0,c27,hk_x28,e12]
    ·obtain ⟨x33,h34,j26⟩:=aA j26;refine aP fun _ z=>?_;simp only [go_sem,seval,c20,c27,e12];refine SC.mono (rD v6 v7 x14 false _ h34 _ _ _ P0 F0 fp0 S_v6 C0 (by simp only [go_sem,seval,gZ u0,bv6,e12,hg0])) ?_;rintro _ _ ⟨S_x33,h_x33,vr_x33,rfl,rfl,hk_x33⟩;obtain ⟨f35,j26⟩:=bP j26;have f36:v4.length+1<=1073741824:=by first | omega | (simp only [nC,jC,lA] at f35 ⊢;omega)
     have f37:v4.length<=1073741823:=by first | omega | (simp only [nC,jC,lA] at f35 ⊢;omega)
     simp only [go_sem,seval,f36,e12];apply z;cases j26;refine ⟨by decide,(26::i3::14::q),0,S_x33,?_⟩;simp only [go_sem,seval,Ee u0,gZ u0,c27,hk_x33,e12]
   ·rintro E38 m39 ⟨oy26_8,jy26_8,S_y26_2_1,e40⟩ _;simp only [aK,aQ];have hk_y26_2_1:eL F0 fp0 S_y26_2_1 C0 m39.hp y26.2.1:=by simp only [e40]
    refine cH ?_;refine ⟨c9,xQ _,y26.1,(i64.wrap (v5+1)),y26.2.1,y26.2.2,oy26_8,jy26_8,S_y26_2_1,j8,?_⟩;simp only [go_sem,seval,hk_y26_2_1,e40]
 ·refine dQ ?_
  try simp only [bZ,bR,↓reduceIte,aK]
  cases j8;refine aF ?_;have s44:=(eL.scopeS bv6);obtain ⟨⟨f41',f42'⟩,h⟩:=bP h;have f41:0<=(a0.bJ.length:Int):=f41';have f42:(a0.bJ.length:Int)<=(v6.bJ.length:Int):=f42';have s45:sZ (xB S_v6 (a0.bJ.length)) 1 (v6.bJ.take (a0.bJ.length)).length:=sZ.cutL (eL.scopeS bv6) f42;have k43:eL F0 fp0 (xB S_v6 (a0.bJ.length)) C0 m11.hp ({ v6 with bJ:=(v6.bJ.take (a0.bJ.length)) }:aD):=eL.cutS bv6 (by omega) rfl rfl rfl rfl;refine aP fun _ z=>?_;simp only [go_sem,seval,c13,s44.ld,sZ.slHi (P:=prog) (k:=.i64) (eL.scopeS bv6) Qx f41 f42,s45.cells,s45.cok,s45.st1,e12];apply z;refine sW ?_;simp only [go_sem,seval,e12];refine aO ?_;cases h;refine ⟨by simp,?_⟩;simp only [go_sem,seval];refine ⟨(xB S_v6 (a0.bJ.length)),_,_,Fr.to (q:=q) (p:=P0) ?_ u0 (by simp only [go_sem,seval]),?_⟩
  ·simp only [go_sem,e12]
  ·simp only [go_sem,k43]
theorem wH {dA} (mL:lK dA) {nZ} (Ai:rQ nZ) (n:Nat):pD (jA dA nZ n):=by
 rintro a0 a1 a2 a3 r h q m vs P0 F0 fp0 S0 C0 ⟨hv,w0,t0,hg0⟩;refine SC.wv hv ?_;refine SC.ap w0 fun u0 l0=>?_
 try simp only [go_sem] at w0 l0
 refine eD func89 call89 ntmps89 results89 ?_;unfold jA at h;refine aL ?_;refine aL ?_;refine tI (id:=(5::q)) (off:=3) (cs:=[.lit (.string (bs [])),.lit (.int .i64 (-1:Int)),.lit (.int .i64 0),.list .self ([].map aG.C),.list .self ([].map aH.C),.list .self ([].map aH.C),.lit (.int .i64 a2.fR)]) (by simp only [go_sem,seval]) rfl ?_;refine aF (aL ?_);refine bM (aL ?_);refine bH h (fun c4 h=>?_) (fun c4 h=>?_)
 ·refine aF ?_;obtain ⟨x5,h10,h⟩:=aA h;obtain ⟨f7,f8,f9⟩:=aZ h10;have f11:a2.aM[0]? = some x5:=f9;obtain ⟨x6,h12,h⟩:=aA h;refine aP fun _ z=>?_;simp only [go_sem,seval,c4,f7,f8,f11];refine SC.bA (iK n a0 a1 x5 _ h12 _ _ _ P0 F0 fp0 S0 C0) ?_;simp only [go_sem,seval,gZ u0];apply z;obtain ⟨x13,h14,h⟩:=aA h;refine eR fun _ z=>?_;simp only [go_sem,seval,gZ u0];refine SC.mono (gJ n a0 x6.2 (bB.mk a2.cP 1 0) a2.fR _ h14 _ _ _ P0 F0 fp0 S0 C0 (by simp only [go_sem,seval,gZ u0,t0])) ?_;rintro _ _ ⟨S_x13,h_x13,vr_x13,rfl,rfl,hk_x13⟩;simp only [go_sem,seval,gZ u0];apply z;simp only [aK,aQ];refine aL ?_;refine aO ?_;cases h;refine ⟨by simp,?_⟩;simp only [go_sem,seval,gZ u0];refine ⟨S_x13,_,_,Fr.to (q:=q) (p:=P0) ?_ u0 (by simp only [go_sem,seval,gZ u0]),?_⟩
  ·simp only [go_sem]
  ·simp only [go_sem,hk_x13]
 ·refine aL ?_;refine bH h (fun c15 h=>?_) (fun c15 h=>?_)
  ·refine aF ?_;obtain ⟨x16,h17,h⟩:=aA h;refine aP fun _ z=>?_;simp only [go_sem,seval,c15];refine SC.mono (AQ n a0 a1 a2 (aH.mk [] (-1:Int) 0 [] [] [] a2.fR) _ h17 _ _ _ P0 F0 fp0 S0 C0 (by simp only [go_sem,seval,gZ u0,t0,w0,hg0])) ?_;rintro _ _ ⟨S_x16,h_x16,vr_x16,rfl,rfl,hk_x16⟩;simp only [go_sem,seval,gZ u0];apply z;refine aO ?_
   try simp only [aT,bI]
   cases h;refine ⟨by simp,?_⟩;simp only [go_sem,seval,gZ u0];refine ⟨S_x16,_,_,Fr.to (q:=q) (p:=P0) ?_ u0 (by simp only [go_sem,seval,gZ u0]),?_⟩
   ·simp only [go_sem]
   ·simp only [go_sem,hk_x16]
  ·refine aL ?_;refine bH h (fun c18 h=>?_) (fun c18 h=>?_)
   ·refine aF ?_;obtain ⟨x19,h21,h⟩:=aA h;obtain ⟨x20,h22,h⟩:=aA h;refine eC [(1,0),(2,0),(3,0),(4,0),(5,0),(0,0),(6,0),(7,1),(8,0)] 24 fun _ z=>?_;simp only [go_sem,seval,c18];refine sF (DN (i64.wrap (min a2.mM 1025)) _ h21 _ _ _) ?_;simp only [go_sem,seval];refine sF (aS a0 a1 x19 136 a2.fR _ h22 _ _ _ P0 F0 fp0 S0 C0) ?_;simp only [go_sem];apply z;refine NO (id:=(5::q)) (off:=3) (cs:=[.lit (.string (bs [])),.lit (.int .i64 (-1:Int)),.lit (.int .i64 0),.nilv,.list .self ([].map aH.C),.list .self ([].map aH.C),.lit (.int .i64 a2.fR)]) (by simp only [go_sem,seval,gZ u0]) rfl ?_;obtain ⟨x23,h24,h⟩:=aA h;refine eR fun _ z=>?_;simp only [go_sem,seval,gZ u0];refine SC.mono (gJ n a0 x20 (bB.mk a2.cP 4 (i64.wrap a2.mM)) a2.fR _ h24 _ _ _ P0 F0 fp0 S0 C0 (by simp only [go_sem,seval,gZ u0,t0])) ?_;rintro _ _ ⟨S_x23,h_x23,vr_x23,rfl,rfl,hk_x23⟩;simp only [go_sem,seval,gZ u0];apply z;simp only [aK,aQ];refine aL ?_;refine aO ?_;cases h;refine ⟨by simp,?_⟩;simp only [go_sem,seval,gZ u0];refine ⟨S_x23,_,_,Fr.to (q:=q) (p:=P0) ?_ u0 (by simp only [go_sem,seval,gZ u0]),?_⟩
    ·simp only [go_sem]
    ·simp only [go_sem,hk_x23]
   ·refine aL ?_;refine bH h (fun c25 h=>?_) (fun c25 h=>?_)
    ·refine aF ?_;obtain ⟨x26,h27,h⟩:=aA h;refine aP fun _ z=>?_;simp only [go_sem,seval,c25];refine SC.mono (Ci n a0 a1 a2 (aH.mk [] (-1:Int) 0 [] [] [] a2.fR) _ h27 _ _ _ P0 F0 fp0 S0 C0 (by simp only [go_sem,seval,gZ u0,t0,w0,hg0])) ?_;rintro _ _ ⟨h_x26,vr_x26,rfl,rfl,hk_x26⟩;simp only [go_sem,seval,gZ u0];apply z;refine aO ?_
     try simp only [aT,bI]
     cases h;refine ⟨by simp,?_⟩;simp only [go_sem,seval,gZ u0];refine ⟨S0,_,_,Fr.to (q:=q) (p:=P0) ?_ u0 (by simp only [go_sem,seval,gZ u0]),?_⟩
     ·simp only [go_sem]
     ·simp only [go_sem,hk_x26]
    ·refine aL ?_;refine bH h (fun c28 h=>?_) (fun c28 h=>?_)
     ·refine aF ?_;obtain ⟨x29,h30,h⟩:=aA h;refine aP fun _ z=>?_;simp only [go_sem,seval,c28];refine SC.bA (Cj n a0 a1 a2 (aH.mk [] (-1:Int) 0 [] [] [] a2.fR) _ h30 _ _ _ P0 F0 fp0 S0 C0) ?_;simp only [go_sem,seval,gZ u0];apply z;refine aO ?_
      try simp only [aT,bI]
      cases h;refine ⟨by simp,?_⟩;simp only [go_sem,seval];refine ⟨S0,_,_,Fr.to (q:=q) (p:=P0) ?_ u0 (by simp only [go_sem,seval,gZ u0]),?_⟩
      ·simp only [go_sem]
      ·simp only [go_sem,t0]
     ·refine aL ?_;refine bH h (fun c31 h=>?_) (fun c31 h=>?_)
      ·refine aF ?_;obtain ⟨x32,h33,h⟩:=aA h;refine aP fun _ z=>?_;simp only [go_sem,seval,c31];refine SC.mono (oT n a0 a1 a2 (aH.mk [] (-1:Int) 0 [] [] [] a2.fR) (-1:Int) _ h33 _ _ _ P0 F0 fp0 S0 C0 (by simp only [go_sem,seval,gZ u0,t0,w0,hg0])) ?_;rintro _ _ ⟨h_x32,vr_x32,rfl,rfl,hk_x32⟩;simp only [go_sem,seval,gZ u0];apply z;refine aO ?_
       try simp only [aT,bI]
       cases h;refine ⟨by simp,?_⟩;simp only [go_sem,seval,gZ u0];refine ⟨S0,_,_,Fr.to (q:=q) (p:=P0) ?_ u0 (by simp only [go_sem,seval,gZ u0]),?_⟩
       ·simp only [go_sem]
       ·simp only [go_sem,hk_x32]
      ·refine aL ?_;refine bH h (fun c34 h=>?_) (fun c34 h=>?_)
       ·refine aF ?_;obtain ⟨x35,h40,h⟩:=aA h;obtain ⟨f37,f38,f39⟩:=aZ h40;have f41:a2.aM[0]? = some x35:=f39;obtain ⟨x36,h42,h⟩:=aA h;refine aP fun _ z=>?_;simp only [go_sem,seval,c34,f37,f38,f41];refine SC.bA (iK n a0 a1 x35 _ h42 _ _ _ P0 F0 fp0 S0 C0) ?_;simp only [go_sem,seval,gZ u0];apply z;refine aF ?_;obtain ⟨x43,h48,h⟩:=aA h;obtain ⟨f45,f46,f47⟩:=aZ h48;have f49:a2.aM[1]? = some x43:=f47;obtain ⟨x44,h50,h⟩:=aA h;refine aP fun _ z=>?_;simp only [go_sem,seval,gZ u0,f45,f46,f49];refine SC.mono (mL a0 x36.2 x43 false _ h50 _ _ _ P0 F0 fp0 S0 C0 (by simp only [go_sem,seval,gZ u0,t0,hg0])) ?_;rintro _ _ ⟨S_x44,h_x44,vr_x44,rfl,rfl,hk_x44⟩;simp only [go_sem,seval,gZ u0];apply z;refine aF ?_;obtain ⟨⟨f51,f52⟩,h⟩:=bP h;refine cH ?_;refine bM ?_;obtain ⟨y58,j58,h⟩:=aA h;refine IU [] [((5::q),5)] rfl (fun c X Y=>∃v54 v55 v56 v57 S_v55,fW dA a2 c v54 v55 v56 v57=some y58/\X 0=.ptr P0 0/\X 6=.ptr (1::q) 0/\X 7=.ptr (5::q) 0/\X 101=.list .none ((a2.aM.drop 2).map aB.C)/\X 102=.lit (.int .i64 ((a2.aM.drop 2).length:Int))/\X 103=.lit (.int .i64 v54)/\Y.blk P0=some (oD F0 fp0 S_v55 C0 v55 v56)/\eL F0 fp0 S_v55 C0 Y.hp v55/\Y.blk (1::q)=some ([.lit (.string (bs [])),.lit (.int .i64 0),.lit (.int .i64 0),.list .self ([].map aG.C),.list .self ([].map aH.C),.list .self ([].map aH.C),.lit (.int .i64 0)])/\Y.blk (5::q)=some ([.lit (.string (bs v57.kL)),.lit (.int .i64 v57.lO),.lit (.int .i64 v57.pP),.list .self (v57.aM.map aG.C),.list .none (v57.eK.map aH.C),.list .none (v57.sX.map aH.C),.lit (.int .i64 v57.fR)])/\Y.gl=m.gl/\Fr q P0 m Y) n ⟨0,x44.2.1,x44.2.2,(aH.mk ([105,102]:cQ) (-1:Int) 0 [x36.1] x44.1 [] a2.fR),S_x44,j58,?_⟩ ?_
        ·simp only [go_sem,seval,gZ u0,hk_x44]
        rintro i53 c59 E60 m61 ⟨v54,v55,v56,v57,S_v55,j58,e62⟩ _
        rcases c59 with _ | c59
        ·cases j58
        rw [fW] at j58;have bv55:eL F0 fp0 S_v55 C0 m61.hp v55:=by simp only [e62]
        refine aL ?_;refine aF (bH j58 (fun c63 j58=>?_) (fun c63 j58=>?_))
        ·refine aU ?_
         refine aF (bM (aF ?_));obtain ⟨x64,h69,j58⟩:=aA j58;obtain ⟨f66,f67,f68⟩:=aZ h69;refine cH ?_;obtain ⟨x70,h71,j58⟩:=aA j58;refine eR fun _ z=>?_;simp only [go_sem,seval,e62];refine SC.mono (mL v55 v56 x64 false _ h71 _ _ _ P0 F0 fp0 S_v55 C0 (by simp only [go_sem,seval,gZ u0,bv55,e62,hg0])) ?_;rintro _ _ ⟨S_x70,h_x70,vr_x70,rfl,rfl,hk_x70⟩;simp only [go_sem,seval,gZ u0,e62];apply z;simp only [aK,aQ];refine cH ?_;refine ⟨c59,xQ _,(i64.wrap (v54+1)),x70.2.1,x70.2.2,({ v57 with sX:=x70.1 }:aH),S_x70,j58,?_⟩;simp only [go_sem,seval,gZ u0,hk_x70,e62]
        ·refine dQ ?_
         try simp only [bZ,bR,↓reduceIte,aK,aQ]
         cases j58;refine aL ?_;refine aO ?_;cases h;refine ⟨by simp,?_⟩;simp only [go_sem,seval,e62];refine ⟨S_v55,_,_,Fr.to (q:=q) (p:=P0) ?_ u0 (by simp only [go_sem,seval,gZ u0,e62]),?_⟩
         ·simp only [go_sem,e62]
         ·simp only [go_sem,bv55]
       ·refine aL ?_;refine bH h (fun c72 h=>?_) (fun c72 h=>?_)
        ·refine aF ?_;obtain ⟨x73,h74,h⟩:=aA h;refine aP fun _ z=>?_;simp only [go_sem,seval,c72];refine SC.mono (Ai a0 a1 a2 (aH.mk [] (-1:Int) 0 [] [] [] a2.fR) _ h74 _ _ _ P0 F0 fp0 S0 C0 (by simp only [go_sem,seval,gZ u0,t0,w0,hg0])) ?_;rintro _ _ ⟨S_x73,h_x73,vr_x73,rfl,rfl,hk_x73⟩;simp only [go_sem,seval,gZ u0];apply z;refine aO ?_
         try simp only [aT,bI]
         cases h;refine ⟨by simp,?_⟩;simp only [go_sem,seval,gZ u0];refine ⟨S_x73,_,_,Fr.to (q:=q) (p:=P0) ?_ u0 (by simp only [go_sem,seval,gZ u0]),?_⟩
         ·simp only [go_sem]
         ·simp only [go_sem,hk_x73]
        ·refine aL ?_;refine bH h (fun c75 h=>?_) (fun c75 h=>?_)
         ·refine aF ?_;obtain ⟨x76,h77,h⟩:=aA h;refine aP fun _ z=>?_;simp only [go_sem,seval,c75];refine SC.mono (BA n a0 a1 a2 (aH.mk [] (-1:Int) 0 [] [] [] a2.fR) a3 _ h77 _ _ _ P0 F0 fp0 S0 C0 (by simp only [go_sem,seval,gZ u0,t0,w0,hg0])) ?_;rintro _ _ ⟨h_x76,vr_x76,rfl,rfl,hk_x76⟩;simp only [go_sem,seval,gZ u0];apply z;refine aO ?_
          try simp only [aT,bI]
          cases h;refine ⟨by simp,?_⟩;simp only [go_sem,seval,gZ u0];refine ⟨S0,_,_,Fr.to (q:=q) (p:=P0) ?_ u0 (by simp only [go_sem,seval,gZ u0]),?_⟩
          ·simp only [go_sem]
          ·simp only [go_sem,hk_x76]
         ·refine NO (id:=(5::q)) (off:=3) (cs:=[.lit (.string (bs [])),.lit (.int .i64 (-1:Int)),.lit (.int .i64 0),.nilv,.list .self ([].map aH.C),.list .self ([].map aH.C),.lit (.int .i64 a2.fR)]) (by simp only [go_sem,seval]) rfl ?_;refine aU ?_
          try simp only [aK,aQ]
          refine aL ?_;refine aO ?_;cases h;refine ⟨by simp,?_⟩;simp only [go_sem,seval];refine ⟨S0,_,_,Fr.to (q:=q) (p:=P0) ?_ u0 (by simp only [go_sem,seval,gZ u0,w0]),?_⟩
          ·simp only [go_sem]
          ·simp only [go_sem,t0]
theorem Aa {dA} (mL:lK dA) (n:Nat):rQ (mE dA n):=by
 rintro a0 a1 a2 a3 r h q m vs P0 F0 fp0 S0 C0 ⟨hv,w0,t0,hg0⟩;refine SC.wv hv ?_;refine SC.ap w0 fun u0 l0=>?_
 try simp only [go_sem] at w0 l0
 refine eD func145 call145 ntmps145 results145 ?_;unfold mE at h;refine aL ?_;refine tI (id:=(1::q)) (off:=3) (cs:=[.lit (.string (bs a3.kL)),.lit (.int .i64 a3.lO),.lit (.int .i64 a3.pP),.list .self ([].map aG.C),.list .none (a3.eK.map aH.C),.list .none (a3.sX.map aH.C),.lit (.int .i64 a3.fR)]) (by simp only [go_sem,seval]) rfl ?_;refine aF ?_;obtain ⟨x4,h11,h⟩:=aA h;obtain ⟨f8,f9,f10⟩:=aZ h11;have f12:a2.aM[0]? = some x4:=f10;obtain ⟨x5,h13,h⟩:=aA h;obtain ⟨x6,h17,h⟩:=aA h;obtain ⟨f14,f15,f16⟩:=aZ h17;have f18:a2.aM[1]? = some x6:=f16;obtain ⟨x7,h19,h⟩:=aA h;refine eC [(0,0),(1,0),(2,0),(3,0),(4,0),(5,0),(6,0),(7,0),(8,1),(9,0),(10,1),(11,0),(13,0),(14,0),(12,0),(15,0),(16,0)] 20 fun _ z=>?_;simp only [go_sem,seval,f8,f9,f12];refine sF (iK n a0 a1 x4 _ h13 _ _ _ P0 F0 fp0 S0 C0) ?_;simp only [go_sem,seval,eO u0,f14,f15,f18];refine sF (iK n a0 x5.2 x6 _ h19 _ _ _ P0 F0 fp0 S0 C0) ?_;simp only [go_sem,seval,eO u0];apply z;refine aF ?_;have s20:=(eL.scopeS t0);refine aP fun _ z=>?_;simp only [go_sem,seval,eO u0,s20.slen,s20.ld];apply z;refine aF ?_;obtain ⟨x21,h22,h⟩:=aA h;refine aP fun _ z=>?_;simp only [go_sem,seval,eO u0];refine SC.mono (gJ n a0 x7.2 (bB.mk a2.cP 1 0) a2.fR _ h22 _ _ _ P0 F0 fp0 S0 C0 (by simp only [go_sem,seval,eO u0,t0])) ?_;rintro _ _ ⟨S_x21,h_x21,vr_x21,rfl,rfl,hk_x21⟩;simp only [go_sem,seval,eO u0];apply z;refine aF ?_;obtain ⟨x23,h28,h⟩:=aA h;obtain ⟨f25,f26,f27⟩:=aZ h28;have f29:a2.aM[2]? = some x23:=f27;obtain ⟨x24,h30,h⟩:=aA h;refine aP fun _ z=>?_;simp only [go_sem,seval,eO u0,f25,f26,f29];refine SC.mono (mL x21.2.1 x21.2.2 x23 false _ h30 _ _ _ P0 F0 fp0 S_x21 C0 (by simp only [go_sem,seval,eO u0,hk_x21,hg0])) ?_;rintro _ _ ⟨S_x24,h_x24,vr_x24,rfl,rfl,hk_x24⟩;simp only [go_sem,seval,eO u0];apply z;refine aF ?_;have s34:=(eL.scopeS hk_x24);obtain ⟨⟨f31',f32'⟩,h⟩:=bP h;have f31:0<=(min (a0.bJ.length:Int) (x24.2.1.bJ.length:Int)):=f31';have f32:(min (a0.bJ.length:Int) (x24.2.1.bJ.length:Int))<=(x24.2.1.bJ.length:Int):=f32';have s35:sZ (xB S_x24 ((min (a0.bJ.length:Int) (x24.2.1.bJ.length:Int)).toNat)) 1 (x24.2.1.bJ.take ((min (a0.bJ.length:Int) (x24.2.1.bJ.length:Int)).toNat)).length:=sZ.cutL (eL.scopeS hk_x24) f32;have k33:eL F0 fp0 (xB S_x24 ((min (a0.bJ.length:Int) (x24.2.1.bJ.length:Int)).toNat)) C0 h_x24 ({ x24.2.1 with bJ:=(x24.2.1.bJ.take ((min (a0.bJ.length:Int) (x24.2.1.bJ.length:Int)).toNat)) }:aD):=eL.cutS hk_x24 (by omega) rfl rfl rfl rfl;refine eC (o0 [0,1,2,3,4,5,6,7,8,9,10,11,12,13,14,15]) 59 fun _ z=>?_;simp only [go_sem,seval,eO u0,s34.slen,s34.ld,sZ.slHi (P:=prog) (k:=.i64) (eL.scopeS hk_x24) Qx f31 f32,s35.cells,s35.cok,s35.st1];apply z;refine aL ?_;refine aO ?_;cases h;refine ⟨by simp,?_⟩;simp only [go_sem,seval,eO u0];refine ⟨(xB S_x24 ((min (a0.bJ.length:Int) (x24.2.1.bJ.length:Int)).toNat)),_,_,Fr.to (q:=q) (p:=P0) ?_ u0 (by simp only [go_sem,seval,eO u0]),?_⟩
 ·simp only [go_sem]
 ·simp only [go_sem,k33]
theorem rZ:∀n,lK (sJ n)/\pD (zW n)/\rQ (DA n)
 | 0=>⟨fun _ _ _ _ _ h=>fM h,fun _ _ _ _ _ h=>fM h,fun _ _ _ _ _ h=>fM h⟩
 | n+1=>
   have ih:=rZ n
   ⟨zA ih.2.1 n,wH ih.1 ih.2.2 n,Aa ih.1 n⟩
theorem AU (n:Nat):lK (sJ n):=(rZ n).1
def Gw (f:aB->Option Bool):Prop:=∀a0 r,f a0=some r->∀(q:Pa) (m:M) (vs:List V),vs.map V.weak1=[.agg ((aB.C a0))]->SC prog 59 vs q m (fun v Y=>v=.lit (.bool r)/\Y=m)
theorem FT:Gw (tW):=by
 intro a0 r h q m vs hv;refine SC.wv hv (eD func59 call59 ntmps59 results59 ?_);unfold tW at h;refine aL ?_;refine aF ?_;obtain ⟨y2,j2,h⟩:=aA h;refine fX 19 (fun X Y=>X 2=.lit (.bool y2)/\Y.gl=m.gl/\m.back q Y=m) ?_ ?_
 ·rcases dD j2 with ⟨c3,j2⟩ | ⟨c3,j2⟩
  ·obtain ⟨x4,h8,j2⟩:=aA j2;obtain ⟨f5,f6,f7⟩:=aZ h8;refine cH ?_;cases j2;exact jD
  ·refine aP fun _ z=>?_;simp only [go_sem,seval,c3];apply z;cases j2;exact jD
 ·intro E9 m10 e11 _;refine aO ?_;cases h;exact jS
def Ct (f:aD->aI->Int->aB->Option (aD × aI)):Prop:=∀a0 a1 a2 a3 r,f a0 a1 a2 a3=some r->∀(q:Pa) (m:M) (vs:List V) (P0:Pa) (F0 fp0 S0 C0:V),vs.map V.weak1=[.ptr P0 0,.lit (.int .i64 a2),.agg ((aB.C a3))]/\m.blk P0=some (oD F0 fp0 S0 C0 a0 a1)/\eL F0 fp0 S0 C0 m.hp a0/\m.gl 0=.eptr [(cA bL.C cX)] 0 0->SC prog 28 vs q m (fun v Y=>∃(fp S:V) (h:Hp) (vr:Nat->Nat),v=.tup []/\Y=m.ck P0 (oD F0 fp S C0 r.1 r.2) h vr/\eL F0 fp S C0 h r.1)
theorem Bz (n:Nat):Ct (jW n):=by
 rintro a0 a1 a2 a3 r h q m vs P0 F0 fp0 S0 C0 ⟨hv,w0,t0,hg0⟩;refine SC.wv hv ?_;refine SC.ap w0 fun u0 l0=>?_
 try simp only [go_sem] at w0 l0
 refine eD func28 call28 ntmps28 results28 ?_;unfold jW at h;refine aL ?_;refine aF ?_;obtain ⟨x2,h3,h⟩:=aA h;refine aP fun _ z=>?_;simp only [go_sem,seval];refine SC.mono (tT n a0 a1 a2 _ h3 _ _ _ P0 F0 fp0 S0 C0 (by simp only [go_sem,seval,gZ u0,t0,w0])) ?_;rintro _ _ ⟨fp_x2,S_x2,h_x2,vr_x2,rfl,rfl,hk_x2⟩;simp only [go_sem,seval];apply z;refine aF ?_;obtain ⟨⟨f4,f5⟩,h⟩:=bP h;refine cH ?_;refine bM ?_;obtain ⟨y10,j10,h⟩:=aA h;refine kX (fun c X Y=>∃v7 v8 v9 S_v8,iD n a3 c v7 v8 v9=some y10/\X 0=.ptr P0 0/\X 5=.ptr (0::q) 0/\X 18=.list .none ((a3.aM.drop (max (i64.wrap ((a3.aM.length:Int) - 1)) 0).toNat).map aB.C)/\X 19=.lit (.int .i64 ((a3.aM.drop (max (i64.wrap ((a3.aM.length:Int) - 1)) 0).toNat).length:Int))/\X 20=.lit (.int .i64 v7)/\Y.blk P0=some (oD F0 fp_x2 S_v8 C0 v8 v9)/\eL F0 fp_x2 S_v8 C0 Y.hp v8/\Y.blk (0::q)=some ((aB.C a3))/\Y.gl=m.gl/\Fr q P0 m Y) n ⟨0,x2.1,x2.2,S_x2,j10,?_⟩ ?_
 ·simp only [go_sem,seval,gZ u0,hk_x2]
 rintro i6 c11 E12 m13 ⟨v7,v8,v9,S_v8,j10,e14⟩ _
 rcases c11 with _ | c11
 ·cases j10
 rw [iD] at j10;have bv8:eL F0 fp_x2 S_v8 C0 m13.hp v8:=by simp only [e14]
 refine aL ?_;refine aF (bH j10 (fun c15 j10=>?_) (fun c15 j10=>?_))
 ·refine aU ?_
  refine aF (bM (aF ?_));obtain ⟨x16,h21,j10⟩:=aA j10;obtain ⟨f18,f19,f20⟩:=aZ h21;refine cH ?_;refine aF ?_;obtain ⟨x22,h33,j10⟩:=aA j10;obtain ⟨f30,f31,f32⟩:=aZ h33;obtain ⟨p23,g23,n23,k23⟩:=eL.foc bv8 f32;obtain ⟨z23,s34,s35,s36,s37,s38,s39,s40⟩:=k23.rows;have s41:=(eL.funcsR bv8);have s24:=eL.fpEq bv8 f30;have s42:eL F0 (.pp (oL F0) (v8.f_.toNat*6)) S_v8 C0 m13.hp v8:=by rw [←s24];exact bv8
  obtain ⟨x25,h43,j10⟩:=aA j10;refine BM [0,1,3,7,0,0,48,127,255,511] 6 [0,1,2,3] rfl (by kernel_rfl) fun _ z=>?_;rw [show List.range 6=[0,1,2,3,4,5] from rfl];simp only [go_sem,seval,gZ u0,s24,e14];refine SC.mono (AU n v8 v9 x16 true _ h43 _ _ _ P0 F0 fp_x2 S_v8 C0 (by simp only [go_sem,seval,gZ u0,s24,s42,e14,hg0])) ?_;rintro _ _ ⟨S_x25,h_x25,vr_x25,rfl,rfl,hk_x25⟩;obtain ⟨x26,h47,j10⟩:=aA j10;obtain ⟨f44,f45,f46⟩:=aZ h47;obtain ⟨p27,g27,n27,k27⟩:=eL.foc hk_x25 f46;obtain ⟨z27,s48,s49,s50,s51,s52,s53,s54⟩:=k27.rows;have k28:eL F0 fp_x2 S_x25 C0 (sH h_x25 (oL F0) (n27.set (v8.f_.toNat*6+5) (.list .none (x25.1.map aH.C)))) ({ x25.2.1 with p_:=⟨(x25.2.1.p_.bD.set v8.f_.toNat { x26 with eK:=x25.1 })⟩ }:aD):=GF.setBody k27 rfl rfl rfl rfl;have k29:eL F0 (.pp (oL F0) (v8.f_.toNat*6)) S_x25 C0 (sH h_x25 (oL F0) (n27.set (v8.f_.toNat*6+5) (.list .none (x25.1.map aH.C)))) ({ x25.2.1 with p_:=⟨(x25.2.1.p_.bD.set v8.f_.toNat { x26 with eK:=x25.1 })⟩ }:aD):=by rw [←s24];exact k28
  simp only [go_sem,seval,qH,s24,k27.hF,k27.len5,e14];apply z;simp only [aK];obtain ⟨y55,j55,j10⟩:=aA j10;refine fX 31 (fun X Y=>X 0=.ptr P0 0/\X 5=.ptr (0::q) 0/\X 18=.list .none ((a3.aM.drop (max (i64.wrap ((a3.aM.length:Int) - 1)) 0).toNat).map aB.C)/\X 19=.lit (.int .i64 ((a3.aM.drop (max (i64.wrap ((a3.aM.length:Int) - 1)) 0).toNat).length:Int))/\X 20=.lit (.int .i64 v7)/\Y.blk P0=some (oD F0 fp_x2 S_x25 C0 ({ x25.2.1 with p_:=⟨(x25.2.1.p_.bD.set v8.f_.toNat { x26 with eK:=x25.1 })⟩ }:aD) y55)/\eL F0 fp_x2 S_x25 C0 Y.hp ({ x25.2.1 with p_:=⟨(x25.2.1.p_.bD.set v8.f_.toNat { x26 with eK:=x25.1 })⟩ }:aD)/\Y.blk (0::q)=some ((aB.C a3))/\Y.gl=m.gl/\Fr q P0 m Y/\Y.hp=(sH h_x25 (oL F0) (n27.set (v8.f_.toNat*6+5) (.list .none (x25.1.map aH.C))))) ?_ ?_
  ·obtain ⟨x56,h62,j55⟩:=aA j55;obtain ⟨f59,f60,f61⟩:=aZ h62;obtain ⟨p57,g57,n57,k57⟩:=eL.foc k28 f61;obtain ⟨z57,s63,s64,s65,s66,s67,s68,s69⟩:=k57.rows;have k58:eL F0 (.pp (oL F0) (v8.f_.toNat*6)) S_x25 C0 (sH h_x25 (oL F0) (n27.set (v8.f_.toNat*6+5) (.list .none (x25.1.map aH.C)))) ({ x25.2.1 with p_:=⟨(x25.2.1.p_.bD.set v8.f_.toNat { x26 with eK:=x25.1 })⟩ }:aD):=by rw [←s24];exact k28
   rcases dD j55 with ⟨c70,j55⟩ | ⟨c70,j55⟩
   ·obtain ⟨x71,h72,j55⟩:=aA j55;refine eC [(1,0),(2,0),(3,0),(4,0),(5,0),(6,0),(7,0),(8,0),(9,0),(10,0),(11,0),(0,0),(12,0),(13,0),(14,1),(15,0)] 31 fun _ z=>?_;simp only [go_sem,seval,gZ u0,s65,k57.hF,c70,e14];refine sF (aS ({ x25.2.1 with p_:=⟨(x25.2.1.p_.bD.set v8.f_.toNat { x26 with eK:=x25.1 })⟩ }:aD) x25.2.2 true 135 a3.fR _ h72 _ _ _ P0 F0 fp_x2 S_x25 C0) ?_;simp only [go_sem,s24];apply z;simp only [aK];cases j55;exact jD
   ·obtain ⟨x73,h75,j55⟩:=aA j55;obtain ⟨x74,h76,j55⟩:=aA j55;refine eC [(1,0),(2,0),(3,0),(4,0),(5,0),(6,0),(7,0),(8,0),(9,0),(10,0),(11,0),(0,0),(12,0),(13,0),(14,1),(15,0)] 31 fun _ z=>?_;simp only [go_sem,seval,gZ u0,s65,k57.hF,c70,e14];refine sF (FT x16 _ h75 _ _ _) ?_;simp only [go_sem,seval,gZ u0,e14];refine sF (aS ({ x25.2.1 with p_:=⟨(x25.2.1.p_.bD.set v8.f_.toNat { x26 with eK:=x25.1 })⟩ }:aD) x25.2.2 x73 135 a3.fR _ h76 _ _ _ P0 F0 fp_x2 S_x25 C0) ?_;simp only [go_sem,s24];apply z;simp only [aK];cases j55;exact jD
  ·intro E77 m78 e79 _;simp only [aK,aQ];refine cH ?_;refine ⟨c11,xQ _,(i64.wrap (v7+1)),({ x25.2.1 with p_:=⟨(x25.2.1.p_.bD.set v8.f_.toNat { x26 with eK:=x25.1 })⟩ }:aD),y55,S_x25,j10,?_⟩;simp only [go_sem,seval,s24,k29,e79]
 ·refine dQ ?_
  try simp only [bZ,bR,↓reduceIte]
  cases j10;cases h;refine ⟨by simp,?_⟩;simp only [go_sem,c15];refine ⟨fp_x2,S_v8,_,_,Fr.to (q:=q) (p:=P0) ?_ u0 (by simp only [go_sem,e14]),?_⟩
  ·simp only [go_sem,e14]
  ·simp only [go_sem,bv8]
end Go.Proofs.YtncembphlfbgoaaGreatDoor.Abs
