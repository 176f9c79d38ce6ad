import Derived.Test.YtknbgnpeiohifaaGreatDoorGGMw0
namespace Go.Proofs.YtknbgnpeiohifaaGreatDoor.Abs
open Go.RowKit Tryz
open IntKind (i64 u32 u64 u8)
set_option linter.all false
set_option maxRecDepth 10000
set_option maxHeartbeats 2000000
set_option maxHeartbeats 2000000
open Tryz
def Ma (f:cB->Option Int):Prop:=∀a0 r,f a0=some r->∀(q:Pa) (m:M) (vs:List V),vs.map V.weak1=[.ls a0]/\m.gl 0=.eptr [(cA bK.C cV)] 0 0->SC prog 78 vs q m (λv Y=>v=.li r/\Y=m)
theorem KI (n:Nat):Ma (yF n):=λa0 r h q m vs ⟨hv,_⟩=>SC.wva hv (cH func78 call78 ntmps78 results78 rfl (wk (.l [.v 6 Int λy=>.li y] [0,5] [] [] none .z .z) q m (yF.eq_1 _ _) h))
instance:iQ 78 (∀n,Ma (yF n)):=⟨KI⟩
def Pl (f:Int->Option Int):Prop:=∀a0 r,f a0=some r->By prog 79 [.lw a0] (.li r)
theorem NE:Pl (Bm):=λa0 r h q m vs hv=>SC.wva hv (cH func79 call79 ntmps79 results79 rfl (wk .z q m (Bm.eq_1 _) h))
def GY (f:aE->aG->aC->Option (aE × aG)):Prop:=∀a0 a1 a2 r,f a0 a1 a2=some r->∀(q:Pa) (m:M) (vs:List V) (P0:Pa) (F0 fp0 S0 C0:V),vs.map V.weak1=[.ptr P0 0,.agg ((aC.C a2))]/\m.blk P0=some (sZ F0 fp0 S0 C0 a0 a1)/\fC F0 fp0 S0 C0 m.hp a0/\m.gl 0=.eptr [(cA bK.C cV)] 0 0->SC prog 31 vs q m (λv Y=>∃(F C:V) (h:Hp) (vr:Nat->Nat),v=.tup []/\Y=m.ck P0 (sZ F fp0 S0 C r.1 r.2) h vr/\fC F fp0 S0 C h r.1)
theorem Gh (n:Nat):GY (qP n):=by
 rintro a0 a1 a2 r h q m vs P0 F0 fp0 S0 C0 ⟨hv,w0,t0,hg0⟩;refine SC.wv hv ?_;refine SC.ap w0 λu0 l0=>?_
 try simp only [go_sem] at w0 l0
 refine wG func31 call31 ntmps31 results31 ?_;unfold qP at h;refine bW ?_;refine aR ?_;obtain ⟨x2,h3,h⟩:=aH h;refine dL λ_ z=>?_;simp only [go_sem,seval];refine SC.bA (bN a0 a1 (decide ((a2.aN.length:Int)<=64)) 136 a2.gI _ h3 _ _ _ P0 F0 fp0 S0 C0) ?_;simp only [go_sem,seval];apply z;refine aR (bW ?_);refine dY ?_;obtain ⟨y8,j8,h⟩:=aH h;refine zR (λc X Y=>∃v5 v6 v7 F_v6,kW n a2 c v5 v6 v7=some y8/\X 0=.ptr P0 0/\X 3=.ptr (0::q) 0/\X 17=.list .none (a2.aN.map aC.C)/\X 18=.li (a2.aN.length:Int)/\X 19=.li v5/\Y.blk P0=some (sZ F_v6 fp0 S0 C0 v6 v7)/\fC F_v6 fp0 S0 C0 Y.hp v6/\Y.blk (0::q)=some ((aC.C a2))/\Y.gl=m.gl/\Fr q P0 m Y) n ⟨0,a0,x2,F0,j8,?_⟩ ?_
 ·simp only [go_sem,seval,uD u0,t0]
 rintro i4 c9 E10 m11 ⟨v5,v6,v7,F_v6,j8,e12⟩ _
 rcases c9 with _ | c9
 ·cases j8
 rw [kW] at j8;have bv6:fC F_v6 fp0 S0 C0 m11.hp v6:=by simp only [e12]
 refine bW ?_;refine aR (gD j8 (λc13 j8=>?_) (λc13 j8=>?_))
 ·refine dA ?_
  refine aR (dY (aR ?_));obtain ⟨x14,h19,j8⟩:=aH j8;obtain ⟨f16,f17,f18⟩:=bX h19;refine oB ?_;refine aR ?_;have s21:=(fC.funcsR bv6);obtain ⟨x20,h22,j8⟩:=aH j8;refine jM λ_ z=>?_;simp only [go_sem,seval,uD u0,s21.al,e12];refine SC.by_ (Bn n v6.p_ x14.dM _ h22 _ _ _ F_v6 fp0 S0 C0 v6 (by simp only [go_sem,bv6,s21.al])) ?_;simp only [go_sem,seval];apply z;refine aR ?_;obtain ⟨y23,j23,j8⟩:=aH j8;refine Bq 29 (λX Y=>X 0=.ptr P0 0/\X 3=.ptr (0::q) 0/\X 5=.ptr (3::i4::13::q) 0/\X 17=.list .none (a2.aN.map aC.C)/\X 18=.li (a2.aN.length:Int)/\X 19=.li v5/\Y.blk P0=some (sZ F_v6 fp0 S0 C0 v6 y23)/\fC F_v6 fp0 S0 C0 Y.hp v6/\Y.blk (3::i4::13::q)=some ((aC.C x14))/\Y.blk (0::q)=some ((aC.C a2))/\Y.gl=m.gl/\Fr q P0 m Y/\Y.hp=m11.hp) ?_ ?_
  ·rcases AZ j23 with ⟨c24,j23⟩ | ⟨c24,j23⟩
   ·obtain ⟨x25,h27,j23⟩:=aH j23;obtain ⟨x26,h28,j23⟩:=aH j23;refine jM λ_ z=>?_;simp only [go_sem,seval,c24,e12];refine SC.bA (KI n x14.dM _ h27 _ _ _) ?_;simp only [go_sem,seval];refine SC.bA (bN v6 v7 (x25 == 0) 131 x14.gI _ h28 _ _ _ P0 F_v6 fp0 S0 C0) ?_;simp only [go_sem,seval];apply z;simp only [aV];cases j23;exact jD
   ·obtain ⟨x29,h30,j23⟩:=aH j23;refine jM λ_ z=>?_;simp only [go_sem,seval,c24,e12];refine SC.bA (bN v6 v7 false 131 x14.gI _ h30 _ _ _ P0 F_v6 fp0 S0 C0) ?_;simp only [go_sem,seval];apply z;simp only [aV];cases j23;exact jD
  ·intro E31 m32 e33 _;simp only [aV];obtain ⟨x34,h38,j8⟩:=aH j8;obtain ⟨f39,j8⟩:=cQ j8;obtain ⟨R35,R35R,R35l,R35a⟩:=fC.focF bv6 f39;obtain ⟨f40,j8⟩:=cQ j8;refine Az λf41=>?_;have f36:m11.hp (46::i4::13::q)=none:=by have:=f41 46 zb;simpa only [go_sem,seval,t0,bv6,c13,e33] using this
   have k37:fC (.vec (46::i4::13::q) 6 (v6.p_.bC.length+1)) fp0 S0 C0 (Lo m11.hp F_v6 (46::i4::13::q) (R35.flatten++[.ls x14.dM,.lb ((Ae .u32 x14.pX 1) != 0),.li x34,.li 0,.nilv,.nilv])) ({ v6 with p_:=⟨(v6.p_.bC++[(aJ.mk x14.dM ((Ae .u32 x14.pX 1) != 0) x34 0 [] [])])⟩ }:aE):=R35a (f:=(aJ.mk x14.dM ((Ae .u32 x14.pX 1) != 0) x34 0 [] [])) f36 rfl rfl rfl rfl rfl rfl rfl;refine jM λ_ z=>?_;simp only [go_sem,seval,s21.al,e33];refine SC.bA (NE x14.pX _ h38 _ _ _) ?_;simp only [go_sem,seval,s21.al,e33];refine Hy (sz:=6) (rows:=R35) (by (try simp only [go_sem,e33]);have hR:=R35R;exact hR) SS zc36 by36 zc zc rfl (by simp only [go_sem,seval]) (by simp only [go_sem,seval]) (by first | omega | (simp only [qB,sY];omega)) ?_;simp only [go_sem,seval,Ll,List.flatten_nil,R35l,e33];apply z;simp only [aV,cR];refine oB ?_;refine ⟨c9,Rh _,(i64.wrap (v5+1)),({ v6 with p_:=⟨(v6.p_.bC++[(aJ.mk x14.dM ((Ae .u32 x14.pX 1) != 0) x34 0 [] [])])⟩ }:aE),y23,(.vec (46::i4::13::q) 6 (v6.p_.bC.length+1)),j8,?_⟩;simp only [go_sem,seval,uD u0,k37,e33]
 ·refine lM ?_
  try simp only [eH,dN,↓reduceIte,aV]
  cases j8;obtain ⟨⟨f44,f45⟩,h⟩:=cQ h;refine Az λf46=>?_;have f42:m11.hp (18::q)=none:=by have:=f46 18 zb;simpa only [go_sem,seval,t0,bv6,c13,e12] using this
  have k43:fC F_v6 fp0 S0 (.vec (18::q) 1 a2.aN.length) (qL m11.hp (18::q) (List.replicate a2.aN.length [V.nilv]).flatten) ({ v6 with cF:=(List.replicate a2.aN.length []) }:aE):=fC.mkCalls (n:=a2.aN.length) bv6 f42 rfl rfl rfl rfl;refine qC λ_ z=>?_;simp only [go_sem,seval,c13,f44,f45,e12];apply z;simp only [];cases h;refine ⟨zd,?_⟩;simp only [go_sem,jP];refine ⟨F_v6,(.vec (18::q) 1 a2.aN.length),_,_,Fr.to (q:=q) (p:=P0) ?_ u0 (by simp only [go_sem,seval]),?_⟩
  ·simp only [go_sem,e12]
  ·simp only [go_sem,k43]
def Hd (f:aE->aG->Int->Option (aE × aG)):Prop:=∀a0 a1 a2 r,f a0 a1 a2=some r->∀(q:Pa) (m:M) (vs:List V) (P0:Pa) (F0 fp0 S0 C0:V),vs.map V.weak1=[.ptr P0 0,.li a2]/\m.blk P0=some (sZ F0 fp0 S0 C0 a0 a1)/\fC F0 fp0 S0 C0 m.hp a0->SC prog 80 vs q m (λv Y=>∃(fp S:V) (h:Hp) (vr:Nat->Nat),v=.tup []/\Y=m.ck P0 (sZ F0 fp S C0 r.1 r.2) h vr/\fC F0 fp S C0 h r.1)
theorem zI (n:Nat):Hd (nL n):=by
 rintro a0 a1 a2 r h q m vs P0 F0 fp0 S0 C0 ⟨hv,w0,t0⟩;refine SC.wv hv ?_;refine SC.ap w0 λu0 l0=>?_
 try simp only [go_sem] at w0 l0
 refine wG func80 call80 ntmps80 results80 ?_;unfold nL at h;refine aR ?_;have s6:=(fC.funcsR t0);obtain ⟨x1,h10,h⟩:=aH h;obtain ⟨f7,f8,f9⟩:=bX h10;obtain ⟨g2,d2,z2,k2⟩:=fC.foc t0 f9;obtain ⟨p2,s11,s12,s13,s14,s15,s16,s17⟩:=k2.rows;have k3:fC F0 (.pp (tL F0) (a2.toNat*6)) S0 C0 m.hp ({ a0 with f_:=a2 }:aE):=fC.setFn t0 (by assumption) rfl rfl rfl rfl;have k4:fC F0 (.pp (tL F0) (a2.toNat*6)) .nilv C0 m.hp ({ a0 with f_:=a2,bI:=[] }:aE):=fC.nilS k3 rfl rfl rfl rfl;have k5:fC F0 (.pp (tL F0) (a2.toNat*6)) .nilv C0 m.hp ({ a0 with f_:=a2,bI:=[],fW:=a2 }:aE):=fC.same k4 rfl rfl rfl rfl;refine dL λ_ z=>?_;simp only [go_sem,seval,s6.al,xO.ix (P:=prog) (k:=.i64) (fC.funcsR t0) SS f7 f8,w0];apply z;refine zZ (id:=P0) (off:=2) (cs:=[F0,.pp (tL F0) (a2.toNat*6),.list .self [],C0,.li ({ a0 with f_:=a2,bI:=[],fW:=a2 }:aE).fW,.li a1.e_,.li a1.FL]) (by simp only [go_sem,seval]) rfl ?_;refine aR ?_;obtain ⟨g18,d18,z18,k18⟩:=fC.foc k5 f9;obtain ⟨p18,s20,s21,s22,s23,s24,s25,s26⟩:=k18.rows;refine dL λ_ z=>?_;simp only [go_sem,seval,s14,k2.hF];apply z;refine dY ?_;obtain ⟨y30,j30,h⟩:=aH h;refine zR (λc X Y=>∃v28 v29 S_v29,jO x1 c v28 v29=some y30/\X 0=.ptr P0 0/\X 28=.li x1.aT/\X 29=.li v28/\Y.blk P0=some (sZ F0 (.pp (tL F0) (a2.toNat*6)) S_v29 C0 v29 a1)/\fC F0 (.pp (tL F0) (a2.toNat*6)) S_v29 C0 Y.hp v29/\Y.gl=m.gl/\Fr q P0 m Y) n ⟨0,({ a0 with f_:=a2,bI:=[],fW:=a2 }:aE),.nilv,j30,?_⟩ ?_
 ·simp only [go_sem,seval,k5]
 rintro i27 c31 E32 m33 ⟨v28,v29,S_v29,j30,e34⟩ _
 rcases c31 with _ | c31
 ·cases j30
 rw [jO] at j30;have bv29:fC F0 (.pp (tL F0) (a2.toNat*6)) S_v29 C0 m33.hp v29:=by simp only [e34]
 refine bW ?_;refine aR (gD j30 (λc35 j30=>?_) (λc35 j30=>?_))
 ·refine dA ?_
  refine aR (dY (bW ?_));have s38:=(fC.scopeS bv29);obtain ⟨f39,j30⟩:=cQ j30;refine Az λf40=>?_;have f36:m33.hp (10::i27::28::q)=none:=by have:=f40 10 zb;simpa only [go_sem,seval,t0,k3,k4,k5,bv29,c35,e34] using this
  have k37:fC F0 (.pp (tL F0) (a2.toNat*6)) (.vec (10::i27::28::q) 1 (v29.bI.length+1)) C0 (Lo m33.hp S_v29 (10::i27::28::q) ((v29.bI.map (cI .i64)).flatten++[.li v28])) ({ v29 with bI:=(v29.bI++[v28]) }:aE):=fC.appS bv29 f36 v28 rfl rfl rfl rfl;refine qC λ_ z=>?_;simp only [go_sem,seval,s38.al,e34];refine Hy (sz:=1) (rows:=(v29.bI.map (cI .i64))) (by (try simp only [go_sem,seval,t0,k3,k4,k5,bv29,c35,k37,e34]);have hR:=(fC.scopeR bv29);exact hR) Xc zc3 by3 zc zc rfl (by simp only [go_sem]) (by simp only [go_sem,seval]) (by first | omega | (simp only [Kn,qB,sY];omega)) ?_;simp only [go_sem,seval,Ll,List.flatten_nil,e34];apply z;simp only [aV,cR];refine oB ?_;refine ⟨c31,Rh _,(i64.wrap (v28+1)),({ v29 with bI:=(v29.bI++[v28]) }:aE),(.vec (10::i27::28::q) 1 (v29.bI.length+1)),j30,?_⟩;simp only [go_sem,seval,k37,e34]
 ·refine lM ?_
  try simp only [eH,dN,↓reduceIte]
  cases j30;cases h;refine ⟨zd,?_⟩;simp only [go_sem,c35];refine ⟨(.pp (tL F0) (a2.toNat*6)),S_v29,_,_,Fr.to (q:=q) (p:=P0) ?_ u0 (by simp only [go_sem,e34]),?_⟩
  ·simp only [go_sem,e34]
  ·simp only [go_sem,bv29]
def Qj (f:Int->Option Bool):Prop:=∀a0 r,f a0=some r->By prog 139 [.li a0] (.lb r)
theorem JI:Qj (Aw):=λa0 r h q m vs hv=>SC.wva hv (cH func139 call139 ntmps139 results139 rfl (wk (.j 2 1 21 [.v 2 Bool λy=>.lb y] [] [] [] none .z .z) q m (Aw.eq_1 _) h))
def AX (f:aE->aG->cB->Option Int):Prop:=∀a0 a1 a2 r,f a0 a1 a2=some r->∀(q:Pa) (m:M) (vs:List V) (P0:Pa) (F0 fp0 S0 C0:V),vs.map V.weak1=[.ptr P0 0,.ls a2]/\m.blk P0=some (sZ F0 fp0 S0 C0 a0 a1)/\fC F0 fp0 S0 C0 m.hp a0->SC prog 213 vs q m (λv Y=>v=.li r/\Y=m)
theorem Ar (n:Nat):AX (mI n):=by
 rintro a0 a1 a2 r h q m vs P0 F0 fp0 S0 C0 ⟨hv,w0,t0⟩;refine SC.wv hv ?_;refine SC.apart w0 λu0=>?_
 try simp only [go_sem] at w0
 refine wG func213 call213 ntmps213 results213 ?_;unfold mI at h;refine bW ?_;refine aR (aR ?_);have s1:=(fC.scopeS t0);refine dL λ_ z=>?_;simp only [go_sem,seval,s1.al,w0];apply z;refine dY ?_;obtain ⟨y4,j4,h⟩:=aH h;refine zR (λc X Y=>∃v3,lQ a0 a2 c v3=some y4/\X 0=.ptr P0 0/\X 1=.ls a2/\X 5=.li v3/\Y.blk P0=some (sZ F0 fp0 S0 C0 a0 a1)/\Y.gl=m.gl/\Y.hp=m.hp/\m.back q Y=m) n ⟨(i64.wrap ((a0.bI.length:Int) - 1)),j4,?_⟩ ?_
 ·simp only [go_sem,seval,cN,w0]
 rintro i2 c5 E6 m7 ⟨v3,j4,e8⟩ _
 rcases c5 with _ | c5
 ·cases j4
 rw [lQ] at j4;refine aR (bW ?_);refine gD j4 (λc9 j4=>?_) (λc9 j4=>?_)
 ·refine dA ?_
  refine aR (dY (aR ?_));obtain ⟨x10,h18,j4⟩:=aH j4;obtain ⟨f15,f16,f17⟩:=bX h18;obtain ⟨g11,d11,z11,k11⟩:=fC.foc t0 f17;obtain ⟨p11,s19,s20,s21,s22,s23,s24,s25⟩:=k11.rows;have s26:=(fC.funcsR t0);have s12:=fC.fpEq t0 f15;have s27:fC F0 (.pp (tL F0) (a0.f_.toNat*6)) S0 C0 m.hp a0:=by rw [←s12];exact t0
  have s28:=(iP.shC k11.vars);obtain ⟨x13,h32,j4⟩:=aH j4;obtain ⟨f29,f30,f31⟩:=bX h32;obtain ⟨H35,rs_H35,s33,s34⟩:=iP.readI' (fC.scopeR t0) f31;obtain ⟨x14,h39,j4⟩:=aH j4;obtain ⟨f36,f37,f38⟩:=bX h39;obtain ⟨H44,rs_H44,s40,s41,s42,s43⟩:=iP.readVar k11.vars f38;refine jM λ_ z=>?_;simp only [go_sem,seval,s1.al,s23,k11.hF,s12,f29,xO.ix (P:=prog) (k:=.i64) (fC.scopeS t0) Xc f29 f30,s33,s34,xO.ix (P:=prog) (k:=.i64) (iP.shC k11.vars) Or f36 f37,s40,s41,e8];apply z;refine gD j4 (λc45 j4=>?_) (λc45 j4=>?_)
  ·refine EL ?_;simp only [go_sem,seval,s1.al,s12,xO.ix (P:=prog) (k:=.i64) (fC.scopeS t0) Xc f29 f30,s33,s34,c45,e8];refine dI ?_
   try simp only [eN,nE]
   cases j4;simp only [Sum.elim_inr] at h;cases h;exact jS
  ·refine dA ?_
   try simp only [aV,cR]
   refine oB ?_;refine ⟨c5,Rh _,(i64.wrap (v3 - 1)),j4,?_⟩;simp only [go_sem,seval,s12,e8]
 ·refine lM ?_
  try simp only [eH,dN,↓reduceIte,aV]
  cases j4;simp only [xed] at h;refine bW ?_;refine dI ?_;cases h;exact jS
instance:iQ 213 (∀n,AX (mI n)):=⟨Ar⟩
def Fg (f:aE->aG->aK->Int->Option (Int × aE × aG)):Prop:=∀a0 a1 a2 a3 r,f a0 a1 a2 a3=some r->∀(q:Pa) (m:M) (vs:List V) (P0:Pa) (F0 fp0 S0 C0:V),vs.map V.weak1=[.ptr P0 0,.agg ((aK.C a2)),.li a3]/\m.blk P0=some (sZ F0 fp0 S0 C0 a0 a1)/\fC F0 fp0 S0 C0 m.hp a0->SC prog 140 vs q m (λv Y=>∃(S:V) (h:Hp) (vr:Nat->Nat),v=.li r.1/\Y=m.ck P0 (sZ F0 fp0 S C0 r.2.1 r.2.2) h vr/\fC F0 fp0 S C0 h r.2.1)
theorem iT (n:Nat):Fg (fA n):=by
 rintro a0 a1 a2 a3 r h q m vs P0 F0 fp0 S0 C0 ⟨hv,w0,t0⟩;refine SC.wv hv ?_;refine SC.ap w0 λu0 l0=>?_
 try simp only [go_sem] at w0 l0
 refine wG func140 call140 ntmps140 results140 ?_;unfold fA at h;refine bW ?_;refine aR ?_;obtain ⟨x2,h4,h⟩:=aH h;obtain ⟨x3,h5,h⟩:=aH h;refine dL λ_ z=>?_;simp only [go_sem,seval];refine SC.bA (Ar n a0 a1 a2.iE _ h4 _ _ _ P0 F0 fp0 S0 C0) ?_;simp only [go_sem,seval];refine SC.bA (bN a0 a1 (decide (x2<0)) 131 a3 _ h5 _ _ _ P0 F0 fp0 S0 C0) ?_;simp only [go_sem,seval];apply z;refine aR ?_;obtain ⟨x6,h13,h⟩:=aH h;obtain ⟨f10,f11,f12⟩:=bX h13;obtain ⟨g7,d7,z7,k7⟩:=fC.foc t0 f12;obtain ⟨p7,s14,s15,s16,s17,s18,s19,s20⟩:=k7.rows;have s21:=(fC.funcsR t0);have s8:=fC.fpEq t0 f10;have s22:fC F0 (.pp (tL F0) (a0.f_.toNat*6)) S0 C0 m.hp a0:=by rw [←s8];exact t0
 have s23:=(iP.shC k7.vars);obtain ⟨x9,h24,h⟩:=aH h;refine dL λ_ z=>?_;simp only [go_sem,seval,s18,k7.hF,s8,s23.al];refine SC.bA (bN a0 x3 (decide ((x6.aQ.length:Int)<250)) 136 a3 _ h24 _ _ _ P0 F0 fp0 S0 C0) ?_;simp only [go_sem,seval,s8];apply z;refine aR (bW ?_);refine gD h (λc25 h=>?_) (λc25 h=>?_)
 ·refine bW ?_;refine dI ?_
  try simp only [eN]
  cases h;refine ⟨zd,?_⟩;simp only [go_sem,seval,s8];refine ⟨S0,_,_,Fr.to (q:=q) (p:=P0) ?_ u0 (by simp only [go_sem,seval]),?_⟩
  ·simp only [go_sem]
  ·simp only [go_sem,s22]
 ·refine dA ?_
  refine EL ?_;simp only [go_sem,seval,s18,k7.hF,s23.al,c25];refine aR ?_;obtain ⟨f29,h⟩:=cQ h;refine Az λf30=>?_;have f26:m.hp (49::q)=none:=by have:=f30 49 zb;simpa only [go_sem,seval,t0,c25] using this
  have k27:fC F0 fp0 S0 C0 (qL (Lo m.hp g7 (49::q) ((x6.aQ.map aK.C).flatten++[.ls a2.iE,.li a2.bJ,.li a2.jR])) (tL F0) (z7.set (a0.f_.toNat*6+4) (.vec (49::q) 3 (x6.aQ.length+1)))) ({ a0 with p_:=⟨(a0.p_.bC.set a0.f_.toNat { x6 with aQ:=(x6.aQ++[a2]) })⟩ }:aE):=NK.appVars k7 f26 a2 rfl rfl rfl rfl;have k28:fC F0 (.pp (tL F0) (a0.f_.toNat*6)) S0 C0 (qL (Lo m.hp g7 (49::q) ((x6.aQ.map aK.C).flatten++[.ls a2.iE,.li a2.bJ,.li a2.jR])) (tL F0) (z7.set (a0.f_.toNat*6+4) (.vec (49::q) 3 (x6.aQ.length+1)))) ({ a0 with p_:=⟨(a0.p_.bC.set a0.f_.toNat { x6 with aQ:=(x6.aQ++[a2]) })⟩ }:aE):=by rw [←s8];exact k27
  refine jM λ_ z=>?_;simp only [go_sem,seval,tX u0,s18,k7.hF];refine Hy (sz:=3) (rows:=(x6.aQ.map aK.C)) (by (try simp only [go_sem]);have hR:=k7.vars;exact hR) Or zc55 by55 zc zc rfl (by simp only [go_sem,seval]) (by simp only [go_sem,seval]) (by first | omega | (simp only [Kn,qB,sY];omega)) ?_;simp only [go_sem,seval,Ll,List.flatten_nil,jP,NK.apF k7 f26,k7.len4];apply z;refine aR ?_;have s34:=(fC.scopeS k27);obtain ⟨f35,h⟩:=cQ h;refine Az λf36=>?_;have f31:(qL (Lo m.hp g7 (49::q) ((x6.aQ.map aK.C).flatten++[.ls a2.iE,.li a2.bJ,.li a2.jR])) (tL F0) (z7.set (a0.f_.toNat*6+4) (.vec (49::q) 3 (x6.aQ.length+1)))) (60::q)=none:=by have:=f36 60 zb;simpa only [go_sem,seval,t0,c25,k27,k28] using this
  have k32:fC F0 fp0 (.vec (60::q) 1 (a0.bI.length+1)) C0 (Lo (qL (Lo m.hp g7 (49::q) ((x6.aQ.map aK.C).flatten++[.ls a2.iE,.li a2.bJ,.li a2.jR])) (tL F0) (z7.set (a0.f_.toNat*6+4) (.vec (49::q) 3 (x6.aQ.length+1)))) S0 (60::q) ((a0.bI.map (cI .i64)).flatten++[.li (x6.aQ.length:Int)])) ({ a0 with p_:=⟨(a0.p_.bC.set a0.f_.toNat { x6 with aQ:=(x6.aQ++[a2]) })⟩,bI:=(a0.bI++[(x6.aQ.length:Int)]) }:aE):=fC.appS k27 f31 (x6.aQ.length:Int) rfl rfl rfl rfl;have k33:fC F0 (.pp (tL F0) (a0.f_.toNat*6)) (.vec (60::q) 1 (a0.bI.length+1)) C0 (Lo (qL (Lo m.hp g7 (49::q) ((x6.aQ.map aK.C).flatten++[.ls a2.iE,.li a2.bJ,.li a2.jR])) (tL F0) (z7.set (a0.f_.toNat*6+4) (.vec (49::q) 3 (x6.aQ.length+1)))) S0 (60::q) ((a0.bI.map (cI .i64)).flatten++[.li (x6.aQ.length:Int)])) ({ a0 with p_:=⟨(a0.p_.bC.set a0.f_.toNat { x6 with aQ:=(x6.aQ++[a2]) })⟩,bI:=(a0.bI++[(x6.aQ.length:Int)]) }:aE):=by rw [←s8];exact k32
  refine dL λ_ z=>?_;simp only [go_sem,seval,s34.al];refine Hy (sz:=1) (rows:=(a0.bI.map (cI .i64))) (by (try simp only [go_sem]);have hR:=(fC.scopeR k27);exact hR) Xc zc3 by3 zc zc rfl (by simp only [go_sem]) (by simp only [go_sem,seval]) (by first | omega | (simp only [Kn,qB,sY];omega)) ?_;simp only [go_sem,seval,Ll,List.flatten_nil];apply z;refine bW ?_;refine dI ?_;cases h;refine ⟨zd,?_⟩;simp only [go_sem,seval,s8];refine ⟨(.vec (60::q) 1 (a0.bI.length+1)),_,_,Fr.to (q:=q) (p:=P0) ?_ u0 (by simp only [go_sem,seval]),?_⟩
  ·simp only [go_sem]
  ·simp only [go_sem,k33]
def Gg (f:aE->aG->(List aC)->Option (aE × aG)):Prop:=∀a0 a1 a2 r,f a0 a1 a2=some r->∀(q:Pa) (m:M) (vs:List V) (P0:Pa) (F0 fp0 S0 C0:V),vs.map V.weak1=[.ptr P0 0,.list .none (a2.map aC.C)]/\m.blk P0=some (sZ F0 fp0 S0 C0 a0 a1)/\fC F0 fp0 S0 C0 m.hp a0->SC prog 81 vs q m (λv Y=>∃(S:V) (h:Hp) (vr:Nat->Nat),v=.tup []/\Y=m.ck P0 (sZ F0 fp0 S C0 r.1 r.2) h vr/\fC F0 fp0 S C0 h r.1)
theorem Fb (n:Nat):Gg (tP n):=by
 rintro a0 a1 a2 r h q m vs P0 F0 fp0 S0 C0 ⟨hv,w0,t0⟩;refine SC.wv hv ?_;refine SC.ap w0 λu0 l0=>?_
 try simp only [go_sem] at w0 l0
 refine wG func81 call81 ntmps81 results81 ?_;unfold tP at h;refine aR (bW ?_);refine dY ?_;obtain ⟨y5,j5,h⟩:=aH h;refine zR (λc X Y=>∃v2 v3 v4 S_v3,kH n a2 c v2 v3 v4=some y5/\X 0=.ptr P0 0/\X 7=.list .none (a2.map aC.C)/\X 8=.li (a2.length:Int)/\X 9=.li v2/\Y.blk P0=some (sZ F0 fp0 S_v3 C0 v3 v4)/\fC F0 fp0 S_v3 C0 Y.hp v3/\Y.gl=m.gl/\Fr q P0 m Y) n ⟨0,a0,a1,S0,j5,?_⟩ ?_
 ·simp only [go_sem,seval,t0,w0]
 rintro i1 c6 E7 m8 ⟨v2,v3,v4,S_v3,j5,e9⟩ _
 rcases c6 with _ | c6
 ·cases j5
 rw [kH] at j5;have bv3:fC F0 fp0 S_v3 C0 m8.hp v3:=by simp only [e9]
 refine bW ?_;refine aR (gD j5 (λc10 j5=>?_) (λc10 j5=>?_))
 ·refine dA ?_
  refine aR ?_;obtain ⟨y11,j11,j5⟩:=aH j5;refine Bq 42 (λX Y=>∃(S_y11_1:V),X 0=.ptr P0 0/\X 7=.list .none (a2.map aC.C)/\X 8=.li (a2.length:Int)/\X 9=.li v2/\Y.blk P0=some (sZ F0 fp0 S_y11_1 C0 y11.1 y11.2)/\fC F0 fp0 S_y11_1 C0 Y.hp y11.1/\Y.gl=m.gl/\Fr q P0 m Y) ?_ ?_
  ·refine dY (aR ?_);obtain ⟨x12,h17,j11⟩:=aH j11;obtain ⟨f14,f15,f16⟩:=bX h17;refine oB ?_;refine bW ?_;refine aR (aR ?_);obtain ⟨y19,j19,j11⟩:=aH j11;refine Bq 22 (λX Y=>X 0=.ptr P0 0/\X 5=.ptr (3::i1::3::q) 0/\X 6=.ptr (11::i1::3::q) 0/\X 7=.list .none (a2.map aC.C)/\X 8=.li (a2.length:Int)/\X 9=.li v2/\X 27=.lb y19/\Y.blk P0=some (sZ F0 fp0 S_v3 C0 v3 v4)/\fC F0 fp0 S_v3 C0 Y.hp v3/\Y.blk (3::i1::3::q)=some ((aC.C x12))/\Y.blk (11::i1::3::q)=some ((aK.C (aK.mk x12.dM (i64.wrap x12.pX) 0)))/\Y.gl=m.gl/\Fr q P0 m Y/\Y.hp=m8.hp) ?_ ?_
   ·rcases AZ j19 with ⟨c20,j19⟩ | ⟨c20,j19⟩
    ·refine dL λ_ z=>?_;simp only [go_sem,seval,c20];apply z;cases j19;exact jD
    ·refine dL λ_ z=>?_;simp only [go_sem,seval,c20];apply z;cases j19;exact jD
   ·intro E21 m22 e23 _;refine gD j11 (λc24 j11=>?_) (λc24 j11=>?_)
    ·refine aR ?_;obtain ⟨x25,h29,j11⟩:=aH j11;obtain ⟨f26,f27,f28⟩:=bX h29;have f30:x12.aN[0]? = some x25:=f28;refine oB ?_;obtain ⟨x31,h33,j11⟩:=aH j11;obtain ⟨x32,h34,j11⟩:=aH j11;refine jM λ_ z=>?_;simp only [go_sem,seval,e23];refine SC.bA (JI (i64.wrap x25.pX) _ h33 _ _ _) ?_;simp only [go_sem,seval,e23];refine SC.bA (bN v3 v4 x31 136 x12.gI _ h34 _ _ _ P0 F0 fp0 S_v3 C0) ?_;simp only [go_sem,seval];apply z;simp only [aV];obtain ⟨x35,h36,j11⟩:=aH j11;refine qC λ_ z=>?_;simp only [go_sem,seval,uD u0,e23];refine SC.mono (iT n v3 x32 (aK.mk x12.dM (i64.wrap x12.pX) (i64.wrap x25.pX)) x12.gI _ h36 _ _ _ P0 F0 fp0 S_v3 C0 (by simp only [go_sem,seval,bv3,e23])) ?_;rintro _ _ ⟨S_x35,h_x35,vr_x35,rfl,rfl,hk_x35⟩;simp only [go_sem,seval];apply z;simp only [aV,cR];cases j11;refine ⟨zc,S_x35,?_⟩;simp only [go_sem,seval,hk_x35,e23]
    ·refine dA ?_
     try simp only [aV]
     obtain ⟨x37,h38,j11⟩:=aH j11;refine qC λ_ z=>?_;simp only [go_sem,seval,e23];refine SC.mono (iT n v3 v4 (aK.mk x12.dM (i64.wrap x12.pX) 0) x12.gI _ h38 _ _ _ P0 F0 fp0 S_v3 C0 (by simp only [go_sem,bv3,e23])) ?_;rintro _ _ ⟨S_x37,h_x37,vr_x37,rfl,rfl,hk_x37⟩;simp only [go_sem,seval];apply z;simp only [aV,cR];cases j11;refine ⟨zc,S_x37,?_⟩;simp only [go_sem,seval,hk_x37,e23]
  ·rintro E39 m40 ⟨S_y11_1,e41⟩ _;simp only [aV];have hk_y11_1:fC F0 fp0 S_y11_1 C0 m40.hp y11.1:=by simp only [e41]
   refine oB ?_;refine ⟨c6,Rh _,(i64.wrap (v2+1)),y11.1,y11.2,S_y11_1,j5,?_⟩;simp only [go_sem,seval,hk_y11_1,e41]
 ·refine lM ?_
  try simp only [eH,dN,↓reduceIte,aV]
  cases j5;obtain ⟨x42,h50,h⟩:=aH h;obtain ⟨f47,f48,f49⟩:=bX h50;obtain ⟨g43,d43,z43,k43⟩:=fC.foc bv3 f49;obtain ⟨p43,s51,s52,s53,s54,s55,s56,s57⟩:=k43.rows;have s58:=(fC.funcsR bv3);have s44:=fC.fpEq bv3 f47;have s59:fC F0 (.pp (tL F0) (v3.f_.toNat*6)) S_v3 C0 m8.hp v3:=by rw [←s44];exact bv3
  have s60:=(iP.shC k43.vars);have k45:fC F0 fp0 S_v3 C0 (qL m8.hp (tL F0) (z43.set (v3.f_.toNat*6+3) (.li (x42.aQ.length:Int)))) ({ v3 with p_:=⟨(v3.p_.bC.set v3.f_.toNat { x42 with aT:=(x42.aQ.length:Int) })⟩ }:aE):=NK.setParams k43 rfl rfl rfl rfl;have k46:fC F0 (.pp (tL F0) (v3.f_.toNat*6)) S_v3 C0 (qL m8.hp (tL F0) (z43.set (v3.f_.toNat*6+3) (.li (x42.aQ.length:Int)))) ({ v3 with p_:=⟨(v3.p_.bC.set v3.f_.toNat { x42 with aT:=(x42.aQ.length:Int) })⟩ }:aE):=by rw [←s44];exact k45
  refine jM λ_ z=>?_;simp only [go_sem,seval,c10,s55,k43.hF,s44,s60.al,k43.len3,e9];apply z;simp only [];cases h;refine ⟨zd,?_⟩;simp only [go_sem,jP,s44];refine ⟨S_v3,_,_,Fr.to (q:=q) (p:=P0) ?_ u0 (by simp only [go_sem,s44,e9]),?_⟩
  ·simp only [go_sem,e9]
  ·simp only [go_sem,k46]
def Ih (f:aE->aG->Int->aC->Option (aE × aG)):Prop:=∀a0 a1 a2 a3 r,f a0 a1 a2 a3=some r->∀(q:Pa) (m:M) (vs:List V) (P0:Pa) (F0 fp0 S0 C0:V),vs.map V.weak1=[.ptr P0 0,.li a2,.agg ((aC.C a3))]/\m.blk P0=some (sZ F0 fp0 S0 C0 a0 a1)/\fC F0 fp0 S0 C0 m.hp a0->SC prog 32 vs q m (λv Y=>∃(fp S:V) (h:Hp) (vr:Nat->Nat),v=.tup []/\Y=m.ck P0 (sZ F0 fp S C0 r.1 r.2) h vr/\fC F0 fp S C0 h r.1)
theorem Ha (n:Nat):Ih (mH n):=by
 rintro a0 a1 a2 a3 r h q m vs P0 F0 fp0 S0 C0 ⟨hv,w0,t0⟩;refine SC.wv hv ?_;refine SC.ap w0 λu0 l0=>?_
 try simp only [go_sem] at w0 l0
 refine wG func32 call32 ntmps32 results32 ?_;unfold mH at h;refine bW ?_;refine aR ?_;obtain ⟨x2,h3,h⟩:=aH h;refine dL λ_ z=>?_;simp only [go_sem,seval];refine SC.mono (zI n a0 a1 a2 _ h3 _ _ _ P0 F0 fp0 S0 C0 (by simp only [go_sem,seval,tX u0,t0,w0])) ?_;rintro _ _ ⟨fp_x2,S_x2,h_x2,vr_x2,rfl,rfl,hk_x2⟩;simp only [go_sem,seval];apply z;refine aR ?_;obtain ⟨⟨f5,f6⟩,h⟩:=cQ h;obtain ⟨x4,h7,h⟩:=aH h;refine dL λ_ z=>?_;simp only [go_sem,seval,tX u0,f5,f6];refine SC.mono (Fb n x2.1 x2.2 (a3.aN.take (max (i64.wrap ((a3.aN.length:Int) - 1)) 0).toNat) _ h7 _ _ _ P0 F0 fp_x2 S_x2 C0 (by simp only [go_sem,seval,hk_x2])) ?_;rintro _ _ ⟨S_x4,h_x4,vr_x4,rfl,rfl,hk_x4⟩;simp only [go_sem,seval];apply z;refine bW ?_;refine gD h (λc8 h=>?_) (λc8 h=>?_)
 ·obtain ⟨y9,j9,h⟩:=aH h;refine Bq 41 (λX Y=>Y.blk P0=some (sZ F0 fp_x2 S_x4 C0 x4.1 y9)/\fC F0 fp_x2 S_x4 C0 Y.hp x4.1/\Y.gl=m.gl/\Fr q P0 m Y/\Y.hp=h_x4) ?_ ?_
  ·obtain ⟨x10,h16,j9⟩:=aH j9;obtain ⟨f13,f14,f15⟩:=bX h16;obtain ⟨g11,d11,z11,k11⟩:=fC.foc hk_x4 f15;obtain ⟨p11,s17,s18,s19,s20,s21,s22,s23⟩:=k11.rows;have s24:=(fC.funcsR hk_x4);have s12:=fC.fpEq hk_x4 f13;have s25:fC F0 (.pp (tL F0) (x4.1.f_.toNat*6)) S_x4 C0 h_x4 x4.1:=by rw [←s12];exact hk_x4
   rcases AZ j9 with ⟨c26,j9⟩ | ⟨c26,j9⟩
   ·obtain ⟨x27,h28,j9⟩:=aH j9;refine jM λ_ z=>?_;simp only [go_sem,seval,tX u0,c8,s18,k11.hF,s12,c26];refine SC.bA (bN x4.1 x4.2 true 136 a3.gI _ h28 _ _ _ P0 F0 fp_x2 S_x4 C0) ?_;simp only [go_sem,seval,s12];apply z;simp only [aV];cases j9;exact jD
   ·have s31:=(iP.shC k11.vars);have f32:(6<=p11.length+1+1+1+1+1+1)=True:=eq_true zb;obtain ⟨x29,h33,j9⟩:=aH j9;obtain ⟨x30,h34,j9⟩:=aH j9;refine jM λ_ z=>?_;simp only [go_sem,seval,tX u0,c8,s17,s18,s23,k11.hF,s12,c26,s31.al,f32];refine SC.by_ (JM n x10 _ h33 _ _ _ g11 d11 (by simp only [go_sem,s23,s31.al,k11.vars])) ?_;simp only [go_sem,seval,tX u0];refine SC.bA (bN x4.1 x4.2 (decide (x29<=4)) 136 a3.gI _ h34 _ _ _ P0 F0 fp_x2 S_x4 C0) ?_;simp only [go_sem,seval,s12];apply z;simp only [aV];cases j9;exact jD
  ·intro E35 m36 e37 _;simp only [];cases h;refine ⟨zd,?_⟩;simp only [go_sem];refine ⟨fp_x2,S_x4,_,_,Fr.to (q:=q) (p:=P0) ?_ u0 (by simp only [go_sem,e37]),?_⟩
   ·simp only [go_sem,e37]
   ·simp only [go_sem,hk_x4,e37]
 ·refine dA ?_;cases h;refine ⟨zd,?_⟩;simp only [go_sem,c8];refine ⟨fp_x2,S_x4,_,_,Fr.to (q:=q) (p:=P0) ?_ u0 (by simp only [go_sem,seval]),?_⟩
  ·simp only [go_sem]
  ·simp only [go_sem,hk_x4]
def AW (f:aE->aG->Int->Option Int):Prop:=∀a0 a1 a2 r,f a0 a1 a2=some r->∀(q:Pa) (m:M) (vs:List V) (P0:Pa) (F0 fp0 S0 C0:V),vs.map V.weak1=[.ptr P0 0,.li a2]/\m.blk P0=some (sZ F0 fp0 S0 C0 a0 a1)/\fC F0 fp0 S0 C0 m.hp a0->SC prog 272 vs q m (λv Y=>v=.li r/\Y=m)
theorem jY:AW (fU):=by
 rintro a0 a1 a2 r h q m vs P0 F0 fp0 S0 C0 ⟨hv,w0,t0⟩;refine SC.wv hv ?_;refine SC.apart w0 λu0=>?_
 try simp only [go_sem] at w0
 refine wG func272 call272 ntmps272 results272 ?_;unfold fU at h;refine bW ?_;refine aR (bW ?_);refine gD h (λc1 h=>?_) (λc1 h=>?_)
 ·refine bW ?_;refine dI ?_
  try simp only [eN]
  cases h;exact jS
 ·refine dA ?_
  refine aR ?_;obtain ⟨x2,h9,h⟩:=aH h;obtain ⟨f6,f7,f8⟩:=bX h9;obtain ⟨g3,d3,z3,k3⟩:=fC.foc t0 f8;obtain ⟨p3,s10,s11,s12,s13,s14,s15,s16⟩:=k3.rows;have s17:=(fC.funcsR t0);have s4:=fC.fpEq t0 f6;have s18:fC F0 (.pp (tL F0) (a0.f_.toNat*6)) S0 C0 m.hp a0:=by rw [←s4];exact t0
  have s19:=(iP.shC k3.vars);obtain ⟨x5,h23,h⟩:=aH h;obtain ⟨f20,f21,f22⟩:=bX h23;obtain ⟨H28,rs_H28,s24,s25,s26,s27⟩:=iP.readVar k3.vars f22;refine dL λ_ z=>?_;simp only [go_sem,seval,c1,s14,k3.hF,s4,xO.ix (P:=prog) (k:=.i64) (iP.shC k3.vars) Or f20 f21,s24,s26,w0];apply z;refine dI ?_;cases h;exact jS
instance:iQ 272 (AW fU):=⟨jY⟩
def AV (f:aE->aG->aC->Option (Int × aG)):Prop:=∀a0 a1 a2 r,f a0 a1 a2=some r->∀(q:Pa) (m:M) (vs:List V) (P0:Pa) (F0 fp0 S0 C0:V),vs.map V.weak1=[.ptr P0 0,.agg ((aC.C a2))]/\m.blk P0=some (sZ F0 fp0 S0 C0 a0 a1)/\fC F0 fp0 S0 C0 m.hp a0->SC prog 274 vs q m (λv Y=>v=.li r.1/\Y=(m.set P0 (sZ F0 fp0 S0 C0 a0 r.2)))
theorem sU (n:Nat):AV (iL n):=λa0 a1 a2 r h q m vs P0 F0 fp0 S0 C0 ⟨hv,w0,t0⟩=>SC.wva hv (SC.ac w0 λ_ _ _=>cH func274 call274 ntmps274 results274 rfl (wk .z q m (iL.eq_1 _ _ _ _) h))
instance:iQ 274 (∀n,AV (iL n)):=⟨sU⟩
def JL (f:Int->Int->Option Int):Prop:=∀a0 a1 r,f a0 a1=some r->By prog 332 [.li a0,.li a1] (.li r)
theorem NF:JL (wW):=λa0 a1 r h q m vs hv=>SC.wva hv (cH func332 call332 ntmps332 results332 rfl (wk (.j 2 1 13 [.v 5 Bool λy=>.lb y] [0,1] [] [] none .z (.c .z (.j 2 3 28 [.v 18 Bool λy=>.lb y] [] [] [] none .z .z))) q m (wW.eq_1 _ _) h))
instance:iQ 332 (JL wW):=⟨NF⟩
def Ap (f:aE->aG->aB->Int->Option (aB × aG)):Prop:=∀a0 a1 a2 a3 r,f a0 a1 a2 a3=some r->∀(q:Pa) (m:M) (vs:List V) (P0:Pa) (F0 fp0 S0 C0:V),vs.map V.weak1=[.ptr P0 0,.agg ((aB.C a2)),.li a3]/\m.blk P0=some (sZ F0 fp0 S0 C0 a0 a1)/\fC F0 fp0 S0 C0 m.hp a0->SC prog 333 vs q m (λv Y=>v=.agg ((aB.C r.1))/\Y=(m.set P0 (sZ F0 fp0 S0 C0 a0 r.2)))
theorem Gc:Ap (cP):=λa0 a1 a2 a3 r h q m vs P0 F0 fp0 S0 C0 ⟨hv,w0,t0⟩=>SC.wva hv (SC.ac w0 λ_ _ _=>cH func333 call333 ntmps333 results333 rfl (wk .z q m (cP.eq_1 _ _ _ _) h))
instance:iQ 333 (Ap cP):=⟨Gc⟩
def Aq (f:aE->aG->aB->aB->aB->Option (aB × aG)):Prop:=∀a0 a1 a2 a3 a4 r,f a0 a1 a2 a3 a4=some r->∀(q:Pa) (m:M) (vs:List V) (P0:Pa) (F0 fp0 S0 C0:V),vs.map V.weak1=[.ptr P0 0,.agg ((aB.C a2)),.agg ((aB.C a3)),.agg ((aB.C a4))]/\m.blk P0=some (sZ F0 fp0 S0 C0 a0 a1)/\fC F0 fp0 S0 C0 m.hp a0->SC prog 334 vs q m (λv Y=>v=.agg ((aB.C r.1))/\Y=(m.set P0 (sZ F0 fp0 S0 C0 a0 r.2)))
theorem Ge:Aq (iU):=λa0 a1 a2 a3 a4 r h q m vs P0 F0 fp0 S0 C0 ⟨hv,w0,t0⟩=>SC.wva hv (SC.ac w0 λ_ _ _=>cH func334 call334 ntmps334 results334 rfl (wk (.c (.j 2 3 26 [.b 0 aG λy=>sZ F0 fp0 S0 C0 a0 y] [0,5,6,8] [5,6,8] [] none .z .z) .z) q m (iU.eq_1 _ _ _ _ _) h))
instance:iQ 334 (Aq iU):=⟨Ge⟩
def JJ (f:Int->Option Int):Prop:=∀a0 r,f a0=some r->By prog 270 [.li a0] (.li r)
theorem Iv:JJ (wU):=λa0 r h q m vs hv=>SC.wva hv (cH func270 call270 ntmps270 results270 rfl (wk .z q m (wU.eq_1 _) h))
instance:iQ 270 (JJ wU):=⟨Iv⟩
def JK (f:Int->Option Bool):Prop:=∀a0 r,f a0=some r->By prog 336 [.li a0] (.lb r)
theorem NC:JK (tT):=λa0 r h q m vs hv=>SC.wva hv (cH func336 call336 ntmps336 results336 rfl (wk (.j 2 1 8 [.v 2 Bool λy=>.lb y] [] [] [] none .z .z) q m (tT.eq_1 _) h))
instance:iQ 336 (JK tT):=⟨NC⟩
def zJ (f:aE->aG->aB->Option Int):Prop:=∀a0 a1 a2 r,f a0 a1 a2=some r->∀(q:Pa) (m:M) (vs:List V) (P0:Pa) (F0 fp0 S0 C0:V),vs.map V.weak1=[.ptr P0 0,.agg ((aB.C a2))]/\m.blk P0=some (sZ F0 fp0 S0 C0 a0 a1)/\fC F0 fp0 S0 C0 m.hp a0->SC prog 335 vs q m (λv Y=>v=.li r/\Y=m)
theorem Fh:zJ (mP):=λa0 a1 a2 r h q m vs P0 F0 fp0 S0 C0 ⟨hv,w0,t0⟩=>SC.wva hv (SC.ac w0 λ_ _ _=>cH func335 call335 ntmps335 results335 rfl (wk (.j 2 2 25 [.v 27 Bool λy=>.lb y] [0,5] [0] [] none .z .z) q m (mP.eq_1 _ _ _) h))
instance:iQ 335 (zJ mP):=⟨Fh⟩
def kK (f:aE->aG->aC->Option (aB × aG)):Prop:=∀a0 a1 a2 r,f a0 a1 a2=some r->∀(q:Pa) (m:M) (vs:List V) (P0:Pa) (F0 fp0 S0 C0:V),vs.map V.weak1=[.ptr P0 0,.agg ((aC.C a2))]/\m.blk P0=some (sZ F0 fp0 S0 C0 a0 a1)/\fC F0 fp0 S0 C0 m.hp a0/\m.gl 0=.eptr [(cA bK.C cV)] 0 0->SC prog 268 vs q m (λv Y=>v=.agg ((aB.C r.1))/\Y=(m.set P0 (sZ F0 fp0 S0 C0 a0 r.2)))
def tQ (f:aE->aG->aC->aB->Option (aB × aG)):Prop:=∀a0 a1 a2 a3 r,f a0 a1 a2 a3=some r->∀(q:Pa) (m:M) (vs:List V) (P0:Pa) (F0 fp0 S0 C0:V),vs.map V.weak1=[.ptr P0 0,.agg ((aC.C a2)),.agg ((aB.C a3))]/\m.blk P0=some (sZ F0 fp0 S0 C0 a0 a1)/\fC F0 fp0 S0 C0 m.hp a0/\m.gl 0=.eptr [(cA bK.C cV)] 0 0->SC prog 307 vs q m (λv Y=>v=.agg ((aB.C r.1))/\Y=(m.set P0 (sZ F0 fp0 S0 C0 a0 r.2)))
def sT (f:aE->aG->aC->aB->Option (aB × aG)):Prop:=∀a0 a1 a2 a3 r,f a0 a1 a2 a3=some r->∀(q:Pa) (m:M) (vs:List V) (P0:Pa) (F0 fp0 S0 C0:V),vs.map V.weak1=[.ptr P0 0,.agg ((aC.C a2)),.agg ((aB.C a3))]/\m.blk P0=some (sZ F0 fp0 S0 C0 a0 a1)/\fC F0 fp0 S0 C0 m.hp a0/\m.gl 0=.eptr [(cA bK.C cV)] 0 0->SC prog 308 vs q m (λv Y=>v=.agg ((aB.C r.1))/\Y=(m.set P0 (sZ F0 fp0 S0 C0 a0 r.2)))
def rM (f:aE->aG->aC->aB->Option (aB × aG)):Prop:=∀a0 a1 a2 a3 r,f a0 a1 a2 a3=some r->∀(q:Pa) (m:M) (vs:List V) (P0:Pa) (F0 fp0 S0 C0:V),vs.map V.weak1=[.ptr P0 0,.agg ((aC.C a2)),.agg ((aB.C a3))]/\m.blk P0=some (sZ F0 fp0 S0 C0 a0 a1)/\fC F0 fp0 S0 C0 m.hp a0/\m.gl 0=.eptr [(cA bK.C cV)] 0 0->SC prog 309 vs q m (λv Y=>v=.agg ((aB.C r.1))/\Y=(m.set P0 (sZ F0 fp0 S0 C0 a0 r.2)))
def qI (f:aE->aG->aC->aB->Option (aB × aG)):Prop:=∀a0 a1 a2 a3 r,f a0 a1 a2 a3=some r->∀(q:Pa) (m:M) (vs:List V) (P0:Pa) (F0 fp0 S0 C0:V),vs.map V.weak1=[.ptr P0 0,.agg ((aC.C a2)),.agg ((aB.C a3))]/\m.blk P0=some (sZ F0 fp0 S0 C0 a0 a1)/\fC F0 fp0 S0 C0 m.hp a0/\m.gl 0=.eptr [(cA bK.C cV)] 0 0->SC prog 310 vs q m (λv Y=>v=.agg ((aB.C r.1))/\Y=(m.set P0 (sZ F0 fp0 S0 C0 a0 r.2)))
def jU (f:aE->aG->(List aC)->Option ((List aB) × aG)):Prop:=∀a0 a1 a2 r,f a0 a1 a2=some r->∀(q:Pa) (m:M) (vs:List V) (P0:Pa) (F0 fp0 S0 C0:V),vs.map V.weak1=[.ptr P0 0,.list .none (a2.map aC.C)]/\m.blk P0=some (sZ F0 fp0 S0 C0 a0 a1)/\fC F0 fp0 S0 C0 m.hp a0/\m.gl 0=.eptr [(cA bK.C cV)] 0 0->SC prog 331 vs q m (λv Y=>v=.list .none (r.1.map aB.C)/\Y=(m.set P0 (sZ F0 fp0 S0 C0 a0 r.2)))
theorem Ff {nS} (Fo:tQ nS) {mV} (EF:sT mV) {lV} (DB:rM lV) {lH} (De:qI lH) (n:Nat):kK (pS nS mV lV lH n):=haveI:iQ 307 (tQ nS):=⟨Fo⟩;haveI:iQ 308 (sT mV):=⟨EF⟩;haveI:iQ 309 (rM lV):=⟨DB⟩;haveI:iQ 310 (qI lH):=⟨De⟩;λa0 a1 a2 r h q m vs P0 F0 fp0 S0 C0 ⟨hv,w0,t0,_⟩=>SC.wva hv (SC.ac w0 λ_ _ _=>cH func268 call268 ntmps268 results268 rfl (wk .z q m (pS.eq_1 _ _ _ _ _ _ _ _) h))
theorem Fe {dS} (uV:kK dS) (n:Nat):tQ (pR dS n):=by
 rintro a0 a1 a2 a3 r h q m vs P0 F0 fp0 S0 C0 ⟨hv,w0,t0,hg0⟩;refine SC.wv hv ?_;refine SC.ap w0 λu0 l0=>?_
 try simp only [go_sem] at w0 l0
 refine wG func307 call307 ntmps307 results307 ?_;unfold pR at h;refine bW ?_;refine aR ?_;obtain ⟨x4,h10,h⟩:=aH h;obtain ⟨f7,f8,f9⟩:=bX h10;have f11:a2.aN[0]? = some x4:=f9;obtain ⟨x5,h12,h⟩:=aH h;refine dL λ_ z=>?_;simp only [go_sem,seval,f7,f8,f11];refine SC.bA (uV a0 a1 x4 _ h12 _ _ _ P0 F0 fp0 S0 C0) ?_;simp only [go_sem,seval];apply z;refine aR ?_;obtain ⟨x13,h14,h⟩:=aH h;refine dL λ_ z=>?_;simp only [go_sem,seval,tX u0];refine SC.bA (sU n a0 x5.2 a2 _ h14 _ _ _ P0 F0 fp0 S0 C0) ?_;simp only [go_sem,seval,tX u0];apply z;refine aR ?_;obtain ⟨x15,h17,h⟩:=aH h;obtain ⟨x16,h18,h⟩:=aH h;refine jM λ_ z=>?_;simp only [go_sem,seval,tX u0];refine SC.bA (jY a0 x13.2 x13.1 _ h17 _ _ _ P0 F0 fp0 S0 C0) ?_;simp only [go_sem,seval,tX u0];refine SC.bA (bN a0 x13.2 (x15 == 4) 132 a2.gI _ h18 _ _ _ P0 F0 fp0 S0 C0) ?_;simp only [go_sem,seval];apply z;refine aR ?_;obtain ⟨x19,h20,h⟩:=aH h;refine dL λ_ z=>?_;simp only [go_sem,seval,tX u0];refine SC.bA (bN a0 x16 (x5.1.bR == 1) 133 x5.1.gI _ h20 _ _ _ P0 F0 fp0 S0 C0) ?_;simp only [go_sem,seval];apply z;refine aR (aR ?_);obtain ⟨y21,j21,h⟩:=aH h;refine Bq 46 (λX Y=>X 0=.ptr P0 0/\X 5=.ptr (1::q) 0/\X 6=.ptr (2::q) 0/\X 7=.ptr (9::q) 0/\X 45=.lb y21/\Y.blk P0=some (sZ F0 fp0 S0 C0 a0 x19)/\Y.blk (1::q)=some ((aB.C ({ a3 with dJ:=([105,110,100,101,120]:cB),bR:=2,fB:=x13.1 }:aB)))/\Y.blk (2::q)=some ([.ls [],.li 0,.lw 0,.li 0,.list .self ([].map aB.C),.li 0])/\Y.blk (9::q)=some ((aB.C x5.1))/\Y.gl=m.gl/\Y.hp=m.hp/\m.back q Y=(m.set P0 (sZ F0 fp0 S0 C0 a0 x19))) ?_ ?_
 ·rcases AZ j21 with ⟨c22,j21⟩ | ⟨c22,j21⟩
  ·refine oB ?_;cases j21;exact jD
  ·refine dL λ_ z=>?_;simp only [go_sem,seval,c22];apply z;cases j21;exact jD
 ·intro E23 m24 e25 _;refine gD h (λc26 h=>?_) (λc26 h=>?_)
  ·obtain ⟨x27,h35,h⟩:=aH h;obtain ⟨f32,f33,f34⟩:=bX h35;obtain ⟨g28,d28,z28,k28⟩:=fC.foc t0 f34;obtain ⟨p28,s36,s37,s38,s39,s40,s41,s42⟩:=k28.rows;have s43:=(fC.funcsR t0);have s29:=fC.fpEq t0 f32;have s44:fC F0 (.pp (tL F0) (a0.f_.toNat*6)) S0 C0 m.hp a0:=by rw [←s29];exact t0
   have s45:=(iP.shC k28.vars);obtain ⟨x30,h49,h⟩:=aH h;obtain ⟨f46,f47,f48⟩:=bX h49;obtain ⟨H54,rs_H54,s50,s51,s52,s53⟩:=iP.readVar k28.vars f48;obtain ⟨x31,h55,h⟩:=aH h;refine jM λ_ z=>?_;simp only [go_sem,seval,s40,k28.hF,s29,xO.ix (P:=prog) (k:=.i64) (iP.shC k28.vars) Or f46 f47,s50,s53,e25];refine SC.bA (bN a0 x19 (decide ((i64.wrap x5.1.N_)<x30.jR)) 137 x5.1.gI _ h55 _ _ _ P0 F0 fp0 S0 C0) ?_;simp only [go_sem,seval,s29];apply z;refine bW ?_;refine bW ?_;refine dI ?_;cases h;exact jS
  ·refine dA ?_
   refine bW ?_;refine bW ?_;refine dI ?_;cases h;exact jS
theorem El {cY} (nZ:jU cY) (n:Nat):sT (oR cY n):=haveI:iQ 331 (jU cY):=⟨nZ⟩;λa0 a1 a2 a3 r h q m vs P0 F0 fp0 S0 C0 ⟨hv,w0,t0,_⟩=>SC.wva hv (SC.ac w0 λ_ _ _=>cH func308 call308 ntmps308 results308 rfl (wk .z q m (oR.eq_1 _ _ _ _ _ _) h))
theorem Dx {cY} (nZ:jU cY) (n:Nat):rM (nX cY n):=haveI:iQ 331 (jU cY):=⟨nZ⟩;λa0 a1 a2 a3 r h q m vs P0 F0 fp0 S0 C0 ⟨hv,w0,t0,_⟩=>SC.wva hv (SC.ac w0 λ_ _ _=>cH func309 call309 ntmps309 results309 rfl (wk .z q m (nX.eq_1 _ _ _ _ _ _) h))
theorem Dd {cY} (nZ:jU cY) (n:Nat):qI (mW cY n):=haveI:iQ 331 (jU cY):=⟨nZ⟩;λa0 a1 a2 a3 r h q m vs P0 F0 fp0 S0 C0 ⟨hv,w0,t0,_⟩=>SC.wva hv (SC.ac w0 λ_ _ _=>cH func310 call310 ntmps310 results310 rfl (wk (.c .z (.c .z (.c .z (.c (.j 2 15 65 [.b 0 aG λy=>sZ F0 fp0 S0 C0 a0 y] [0,5,6] [5,6] [] none .z .z) .z)))) q m (mW.eq_1 _ _ _ _ _ _) h))
theorem Gn {dS} (uV:kK dS) (n:Nat):jU (qS dS n):=haveI:iQ 268 (kK dS):=⟨uV⟩;λa0 a1 a2 r h q m vs P0 F0 fp0 S0 C0 ⟨hv,w0,t0,_⟩=>SC.wva hv (SC.ac w0 λ_ _ _=>cH func331 call331 ntmps331 results331 rfl (wk (.s 5 (.l [.o 5 (List aB) λy=>(y.map aB.C),.v 10 Int λy=>.li y,.b 0 aG λy=>sZ F0 fp0 S0 C0 a0 y] [0,8,9] [] [] none .z .z)) q m (qS.eq_1 _ _ _ _ _) h))
theorem xU:∀n,kK (iM n)/\tQ (Ju n)/\sT (II n)/\rM (Ik n)/\qI (He n)/\jU (Ky n)
 | 0=>⟨λ_ _ _ _ h=>cK h,λ_ _ _ _ _ h=>cK h,λ_ _ _ _ _ h=>cK h,λ_ _ _ _ _ h=>cK h,λ_ _ _ _ _ h=>cK h,λ_ _ _ _ h=>cK h⟩
 | n+1=>
   have ih:=xU n
   ⟨Ff ih.2.1 ih.2.2.1 ih.2.2.2.1 ih.2.2.2.2.1 n,Fe ih.1 n,El ih.2.2.2.2.2 n,Dx ih.2.2.2.2.2 n,Dd ih.2.2.2.2.2 n,Gn ih.1 n⟩
theorem oT (n:Nat):kK (iM n):=(xU n).1
instance:iQ 268 (∀n,kK (iM n)):=⟨oT⟩
def zH (f:aE->aG->aC->Option (aB × aG)):Prop:=∀a0 a1 a2 r,f a0 a1 a2=some r->∀(q:Pa) (m:M) (vs:List V) (P0:Pa) (F0 fp0 S0 C0:V),vs.map V.weak1=[.ptr P0 0,.agg ((aC.C a2))]/\m.blk P0=some (sZ F0 fp0 S0 C0 a0 a1)/\fC F0 fp0 S0 C0 m.hp a0/\m.gl 0=.eptr [(cA bK.C cV)] 0 0->SC prog 214 vs q m (λv Y=>v=.agg ((aB.C r.1))/\Y=(m.set P0 (sZ F0 fp0 S0 C0 a0 r.2)))
theorem kG (n:Nat):zH (fK n):=λa0 a1 a2 r h q m vs P0 F0 fp0 S0 C0 ⟨hv,w0,t0,_⟩=>SC.wva hv (SC.ac w0 λ_ _ _=>cH func214 call214 ntmps214 results214 rfl (wk .z q m (fK.eq_1 _ _ _ _) h))
instance:iQ 214 (∀n,zH (fK n)):=⟨kG⟩
def En (f:aE->aG->aC->Option (Int × aG)):Prop:=∀a0 a1 a2 r,f a0 a1 a2=some r->∀(q:Pa) (m:M) (vs:List V) (P0:Pa) (F0 fp0 S0 C0:V),vs.map V.weak1=[.ptr P0 0,.agg ((aC.C a2))]/\m.blk P0=some (sZ F0 fp0 S0 C0 a0 a1)/\fC F0 fp0 S0 C0 m.hp a0->SC prog 276 vs q m (λv Y=>v=.li r.1/\Y=(m.set P0 (sZ F0 fp0 S0 C0 a0 r.2)))
theorem Dw (n:Nat):En (nW n):=by
 rintro a0 a1 a2 r h q m vs P0 F0 fp0 S0 C0 ⟨hv,w0,t0⟩;refine SC.wv hv ?_;refine SC.ap w0 λu0 l0=>?_
 try simp only [go_sem] at w0 l0
 refine wG func276 call276 ntmps276 results276 ?_;unfold nW at h;refine bW ?_;refine aR ?_;have s3:=(fC.funcsR t0);obtain ⟨x2,h4,h⟩:=aH h;refine jM λ_ z=>?_;simp only [go_sem,seval,tX u0,s3.al,w0];refine SC.by_ (Bn n a0.p_ a2.dM _ h4 _ _ _ F0 fp0 S0 C0 a0 (by simp only [go_sem,t0,s3.al])) ?_;simp only [go_sem,seval];apply z;refine aR ?_;obtain ⟨x5,h6,h⟩:=aH h;refine dL λ_ z=>?_;simp only [go_sem,seval];refine SC.bA (bN a0 a1 x2.2 130 a2.gI _ h6 _ _ _ P0 F0 fp0 S0 C0) ?_;simp only [go_sem,seval];apply z;refine bW ?_;refine dI ?_;cases h;exact jS
def Gf (f:aE->aG->Int->Option (List aK)):Prop:=∀a0 a1 a2 r,f a0 a1 a2=some r->∀(q:Pa) (m:M) (vs:List V) (P0:Pa) (F0 fp0 S0 C0:V),vs.map V.weak1=[.ptr P0 0,.li a2]/\m.blk P0=some (sZ F0 fp0 S0 C0 a0 a1)/\fC F0 fp0 S0 C0 m.hp a0->SC prog 277 vs q m (λv Y=>∃lv,v=lv/\iP m.hp lv 3 (r.map aK.C)/\Y=m)
theorem EZ:Gf (pP):=by
 rintro a0 a1 a2 r h q m vs P0 F0 fp0 S0 C0 ⟨hv,w0,t0⟩;refine SC.wv hv ?_;refine SC.apart w0 λu0=>?_
 try simp only [go_sem] at w0
 refine wG func277 call277 ntmps277 results277 ?_;unfold pP at h;refine bW ?_;refine aR ?_;have s5:=(fC.funcsR t0);obtain ⟨x1,h9,h⟩:=aH h;obtain ⟨f6,f7,f8⟩:=bX h9;obtain ⟨g2,d2,z2,k2⟩:=fC.foc t0 f8;obtain ⟨p2,s10,s11,s12,s13,s14,s15,s16⟩:=k2.rows;have s17:=(iP.shC k2.vars);obtain ⟨⟨f3',f4'⟩,h⟩:=cQ h;have f3:0<=x1.aT:=f3';have f4:x1.aT<=(x1.aQ.length:Int):=f4';have s18:xO (CS g2 (x1.aT.toNat)) 3 (x1.aQ.take (x1.aT.toNat)).length:=xO.cutL (iP.shC k2.vars) f4;refine jM λ_ z=>?_;simp only [go_sem,seval,s5.al,xO.ix (P:=prog) (k:=.i64) (fC.funcsR t0) SS f6 f7,s13,s14,k2.hF,xO.slHi (P:=prog) (k:=.i64) (iP.shC k2.vars) Or f3 f4,w0];apply z;refine dI ?_;cases h;refine ⟨zd,?_⟩;simp only [go_sem,seval,cN];refine ⟨(CS g2 (x1.aT.toNat)),xO.wk (xO.cutL (iP.shC k2.vars) f4),?_⟩;have hR:=(iP.cutC k2.vars f4);simpa only [go_sem,seval] using hR
def LZ (f:Int->Int->Option Bool):Prop:=∀a0 a1 r,f a0 a1=some r->By prog 273 [.li a0,.li a1] (.lb r)
theorem Ci:LZ (wX):=λa0 a1 r h q m vs hv=>SC.wva hv (cH func273 call273 ntmps273 results273 rfl (wk (.j 2 1 13 [.v 4 Bool λy=>.lb y] [] [] [] none .z .z) q m (wX.eq_1 _ _) h))
instance:iQ 273 (LZ wX):=⟨Ci⟩
def As (f:aE->aG->aC->Int->Option (aB × aG)):Prop:=∀a0 a1 a2 a3 r,f a0 a1 a2 a3=some r->∀(q:Pa) (m:M) (vs:List V) (P0:Pa) (F0 fp0 S0 C0:V),vs.map V.weak1=[.ptr P0 0,.agg ((aC.C a2)),.li a3]/\m.blk P0=some (sZ F0 fp0 S0 C0 a0 a1)/\fC F0 fp0 S0 C0 m.hp a0->SC prog 311 vs q m (λv Y=>v=.agg ((aB.C r.1))/\Y=(m.set P0 (sZ F0 fp0 S0 C0 a0 r.2)))
theorem Gm (n:Nat):As (nM n):=by
 rintro a0 a1 a2 a3 r h q m vs P0 F0 fp0 S0 C0 ⟨hv,w0,t0⟩;refine SC.wv hv ?_;refine SC.ap w0 λu0 l0=>?_
 try simp only [go_sem] at w0 l0
 refine wG func311 call311 ntmps311 results311 ?_;unfold nM at h;refine bW ?_;refine aR ?_;obtain ⟨x3,h4,h⟩:=aH h;refine dL λ_ z=>?_;simp only [go_sem,seval];refine SC.bA (bN a0 a1 (a2.bJ == 15) 132 a2.gI _ h4 _ _ _ P0 F0 fp0 S0 C0) ?_;simp only [go_sem,seval];apply z;refine aR ?_;obtain ⟨x5,h6,h⟩:=aH h;refine dL λ_ z=>?_;simp only [go_sem,seval,tX u0];refine SC.bA (sU n a0 x3 a2 _ h6 _ _ _ P0 F0 fp0 S0 C0) ?_;simp only [go_sem,seval];apply z;refine aR ?_;obtain ⟨y7,j7,h⟩:=aH h;refine Bq 37 (λX Y=>X 4=.ptr (0::q) 0/\X 6=.ptr (1::q) 0/\X 7=.li x5.1/\Y.blk P0=some (sZ F0 fp0 S0 C0 a0 y7)/\Y.blk (0::q)=some ((aC.C a2))/\Y.blk (1::q)=some ([.ls [],.li 0,.lw 0,.li 0,.list .self ([].map aB.C),.li 0])/\Y.gl=m.gl/\Y.hp=m.hp/\m.back q Y=(m.set P0 (sZ F0 fp0 S0 C0 a0 y7))) ?_ ?_
 ·obtain ⟨x8,h9,j7⟩:=aH j7
  rcases AZ j7 with ⟨c10,j7⟩ | ⟨c10,j7⟩
  ·obtain ⟨x11,h19,j7⟩:=aH j7;obtain ⟨f16,f17,f18⟩:=bX h19;obtain ⟨g12,d12,z12,k12⟩:=fC.foc t0 f18;obtain ⟨p12,s20,s21,s22,s23,s24,s25,s26⟩:=k12.rows;have s27:=(fC.funcsR t0);have s13:=fC.fpEq t0 f16;have s28:fC F0 (.pp (tL F0) (a0.f_.toNat*6)) S0 C0 m.hp a0:=by rw [←s13];exact t0
   have s29:=(iP.shC k12.vars);obtain ⟨x14,h33,j7⟩:=aH j7;obtain ⟨f30,f31,f32⟩:=bX h33;obtain ⟨H38,rs_H38,s34,s35,s36,s37⟩:=iP.readVar k12.vars f32;obtain ⟨x15,h39,j7⟩:=aH j7;refine jM λ_ z=>?_;simp only [go_sem,seval,tX u0,s13];refine SC.bA (jY a0 x5.2 x5.1 _ h9 _ _ _ P0 F0 fp0 S0 C0) ?_;simp only [go_sem,seval,tX u0,c10,s24,k12.hF,xO.ix (P:=prog) (k:=.i64) (iP.shC k12.vars) Or f30 f31,s34,s37];refine SC.bA (bN a0 x5.2 (x14.jR == a3) 132 a2.gI _ h39 _ _ _ P0 F0 fp0 S0 C0) ?_;simp only [go_sem,seval,s13];apply z;simp only [aV];cases j7;exact jD
  ·obtain ⟨x40,h41,j7⟩:=aH j7;refine jM λ_ z=>?_;simp only [go_sem,seval,tX u0];refine SC.bA (jY a0 x5.2 x5.1 _ h9 _ _ _ P0 F0 fp0 S0 C0) ?_;simp only [go_sem,seval,tX u0,c10];refine SC.bA (bN a0 x5.2 false 132 a2.gI _ h41 _ _ _ P0 F0 fp0 S0 C0) ?_;simp only [go_sem,seval];apply z;simp only [aV];cases j7;exact jD
 ·intro E42 m43 e44 _;refine bW ?_;refine dI ?_;cases h;exact jS
instance:iQ 311 (∀n,As (nM n)):=⟨Gm⟩
def Ep (f:aE->aG->aC->aK->Option (aB × aG)):Prop:=∀a0 a1 a2 a3 r,f a0 a1 a2 a3=some r->∀(q:Pa) (m:M) (vs:List V) (P0:Pa) (F0 fp0 S0 C0:V),vs.map V.weak1=[.ptr P0 0,.agg ((aC.C a2)),.agg ((aK.C a3))]/\m.blk P0=some (sZ F0 fp0 S0 C0 a0 a1)/\fC F0 fp0 S0 C0 m.hp a0/\m.gl 0=.eptr [(cA bK.C cV)] 0 0->SC prog 278 vs q m (λv Y=>v=.agg ((aB.C r.1))/\Y=(m.set P0 (sZ F0 fp0 S0 C0 a0 r.2)))
theorem Dy (n:Nat):Ep (nY n):=λa0 a1 a2 a3 r h q m vs P0 F0 fp0 S0 C0 ⟨hv,w0,t0,_⟩=>SC.wva hv (SC.ac w0 λ_ _ _=>cH func278 call278 ntmps278 results278 rfl (wk .z q m (nY.eq_1 _ _ _ _ _) h))
def Ii (f:aE->aG->aC->aA->Int->Option (aA × aE × aG)):Prop:=∀a0 a1 a2 a3 a4 r,f a0 a1 a2 a3 a4=some r->∀(q:Pa) (m:M) (vs:List V) (P0:Pa) (F0 fp0 S0 C0:V),vs.map V.weak1=[.ptr P0 0,.agg ((aC.C a2)),.agg ([.ls a3.dJ,.li a3.fB,.li a3.iO,.nilv,.list .none (a3.bH.map aA.C),.list .none (a3.eG.map aA.C),.li a3.gI]),.li a4]/\m.blk P0=some (sZ F0 fp0 S0 C0 a0 a1)/\fC F0 fp0 S0 C0 m.hp a0/\m.gl 0=.eptr [(cA bK.C cV)] 0 0->SC prog 218 vs q m (λv Y=>∃(h:Hp) (vr:Nat->Nat),v=.agg ((aA.C r.1))/\Y=m.ck P0 (sZ F0 fp0 S0 C0 r.2.1 r.2.2) h vr/\fC F0 fp0 S0 C0 h r.2.1)
theorem sV (n:Nat):Ii (kF n):=by
 rintro a0 a1 a2 a3 a4 r h q m vs P0 F0 fp0 S0 C0 ⟨hv,w0,t0,hg0⟩;refine SC.wv hv ?_;refine SC.ap w0 λu0 l0=>?_
 try simp only [go_sem] at w0 l0
 refine wG func218 call218 ntmps218 results218 ?_;unfold kF at h;refine bW ?_;refine aR ?_;obtain ⟨x4,h5,h⟩:=aH h;refine dL λ_ z=>?_;simp only [go_sem,seval];refine SC.bA (Dw n a0 a1 a2 _ h5 _ _ _ P0 F0 fp0 S0 C0) ?_;simp only [go_sem,seval,uD u0];apply z;refine aR (bW ?_);refine gD h (λc6 h=>?_) (λc6 h=>?_)
 ·refine bW ?_;refine dI ?_
  try simp only [eN]
  cases h;refine ⟨zd,?_⟩;simp only [go_sem,seval];refine ⟨_,_,Fr.to (q:=q) (p:=P0) ?_ u0 (by simp only [go_sem,seval,uD u0]),?_⟩
  ·simp only [go_sem]
  ·simp only [go_sem,t0]
 ·refine dA ?_
  refine aR ?_;have s11:=(fC.callsS t0);obtain ⟨x7,h15,h⟩:=aH h;obtain ⟨f12,f13,f14⟩:=bX h15;obtain ⟨cv_k8,HC_k8,k8⟩:=fC.focC t0 f14;obtain ⟨p8,s16⟩:=k8.row;have s17:=(iP.shC k8.cell);obtain ⟨f18,h⟩:=cQ h;refine Az λf19=>?_;have f9:m.hp (39::q)=none:=by have:=f19 39 zb;simpa only [go_sem,seval,t0,c6] using this
  have k10:fC F0 fp0 S0 C0 (qL (Lo m.hp cv_k8 (39::q) ((x7.map (cI .i64)).flatten++[.li x4.1])) (tL C0) (HC_k8.set a0.fW.toNat (.vec (39::q) 1 (x7.length+1)))) ({ a0 with cF:=(a0.cF.set a0.fW.toNat (x7++[x4.1])) }:aE):=Si.app k8 f9 x4.1 rfl rfl rfl rfl;refine jM λ_ z=>?_;simp only [go_sem,seval,uD u0,c6,s11.al,xO.ix (P:=prog) (k:=.i64) (fC.callsS t0) sz65 f12 f13,s16,k8.hC];refine Hy (sz:=1) (rows:=(x7.map (cI .i64))) (by (try simp only [go_sem]);have hR:=k8.cell;exact hR) Xc zc3 by3 zc zc rfl (by simp only [go_sem]) (by simp only [go_sem,seval]) (by first | omega | (simp only [Kn,qB,sY];omega)) ?_;simp only [go_sem,seval,Ll,List.flatten_nil,jP,uD u0,s11.al,xO.ix (P:=prog) (k:=.i64) (fC.callsS t0) sz65 f12 f13,Si.apF k8 f9,k8.len];apply z;refine aR ?_;obtain ⟨x20,h21,h⟩:=aH h;refine dL λ_ z=>?_;simp only [go_sem,seval];refine SC.mono (EZ ({ a0 with cF:=(a0.cF.set a0.fW.toNat (x7++[x4.1])) }:aE) x4.2 x4.1 _ h21 _ _ _ P0 F0 fp0 S0 C0 (by simp only [go_sem,seval,uD u0,k10])) ?_;rintro v_x20 _ ⟨lv_x20,hl_x20,rl_x20,rfl⟩;rw [hl_x20]
  try simp only [go_sem] at rl_x20
  have rs_x20:=iP.shC rl_x20;simp only [go_sem,seval];apply z;refine aR ?_;obtain ⟨x22,h23,h⟩:=aH h;refine dL λ_ z=>?_;simp only [go_sem,seval,uD u0,rs_x20.al];refine SC.bA (bN ({ a0 with cF:=(a0.cF.set a0.fW.toNat (x7++[x4.1])) }:aE) x4.2 ((a2.aN.length:Int) == (x20.length:Int)) 136 a2.gI _ h23 _ _ _ P0 F0 fp0 S0 C0) ?_;simp only [go_sem,seval];apply z;refine aR (bW ?_);refine dY ?_;obtain ⟨y28,j28,h⟩:=aH h;refine zR (λc X Y=>∃v25 v26 v27,lR n a2 x20 a0 x7 x4 c v25 v26 v27=some y28/\X 0=.ptr P0 0/\X 6=.ptr (1::q) 0/\X 8=.ptr (2::q) 0/\X 9=lv_x20/\X 63=.list .none (a2.aN.map aC.C)/\X 64=.li (a2.aN.length:Int)/\X 65=.li v25/\Y.blk P0=some (sZ F0 fp0 S0 C0 ({ a0 with cF:=(a0.cF.set a0.fW.toNat (x7++[x4.1])) }:aE) v26)/\fC F0 fp0 S0 C0 Y.hp ({ a0 with cF:=(a0.cF.set a0.fW.toNat (x7++[x4.1])) }:aE)/\Y.blk (1::q)=some ([.ls v27.dJ,.li v27.fB,.li v27.iO,.list .self (v27.aN.map aB.C),.list .none (v27.bH.map aA.C),.list .none (v27.eG.map aA.C),.li v27.gI])/\Y.blk (2::q)=some ([.ls [],.li 0,.li 0,.list .self ([].map aB.C),.list .self ([].map aA.C),.list .self ([].map aA.C),.li 0])/\Y.gl=m.gl/\Fr q P0 m Y/\Y.hp=(qL (Lo m.hp cv_k8 (39::q) ((x7.map (cI .i64)).flatten++[.li x4.1])) (tL C0) (HC_k8.set a0.fW.toNat (.vec (39::q) 1 (x7.length+1))))) n ⟨0,x22,({ a3 with dJ:=([99,97,108,108]:cB),fB:=a4,iO:=x4.1,aN:=[] }:aA),j28,?_⟩ ?_
  ·simp only [go_sem,seval,uD u0,k10]
  rintro i24 c29 E30 m31 ⟨v25,v26,v27,j28,e32⟩ _
  rcases c29 with _ | c29
  ·cases j28
  rw [lR] at j28;refine bW ?_;refine aR (gD j28 (λc33 j28=>?_) (λc33 j28=>?_))
  ·refine dA ?_
   refine aR (dY (aR ?_));obtain ⟨x34,h39,j28⟩:=aH j28;obtain ⟨f36,f37,f38⟩:=bX h39;refine oB ?_;refine aR (bW ?_);refine gD j28 (λc40 j28=>?_) (λc40 j28=>?_)
   ·refine lM ?_
    try simp only [seval,eH,dN,aV]
    cases j28;refine bW ?_;refine dI ?_;cases h;refine ⟨zd,?_⟩;simp only [go_sem,seval,e32];refine ⟨_,_,Fr.to (q:=q) (p:=P0) ?_ u0 (by simp only [go_sem,seval,uD u0,e32]),?_⟩
    ·simp only [go_sem,e32]
    ·simp only [go_sem,k10,e32]
   ·refine dA ?_
    try simp only [aV]
    obtain ⟨x41,h46,j28⟩:=aH j28;obtain ⟨f43,f44,f45⟩:=bX h46;obtain ⟨H51,rs_H51,s47,s48,s49,s50⟩:=iP.readVar rl_x20 f45;obtain ⟨x42,h52,j28⟩:=aH j28;obtain ⟨f53,j28⟩:=cQ j28;have f54:v27.aN.length+1<=1073741824:=by first | omega | (simp only [oY,qB,sY] at f53 ⊢;omega)
    have f55:v27.aN.length<=1073741823:=by first | omega | (simp only [oY,qB,sY] at f53 ⊢;omega)
    refine jM λ_ z=>?_;simp only [go_sem,seval,c40,xO.ix (P:=prog) (k:=.i64) (iP.shC rl_x20) Or f43 f44,s47,s48,e32];refine SC.bA (Dy n ({ a0 with cF:=(a0.cF.set a0.fW.toNat (x7++[x4.1])) }:aE) v26 x34 x41 _ h52 _ _ _ P0 F0 fp0 S0 C0) ?_;simp only [go_sem,seval,uD u0,f54,e32];apply z;simp only [aV,cR];refine oB ?_;refine ⟨c29,Rh _,(i64.wrap (v25+1)),x42.2,({ v27 with aN:=(v27.aN++[x42.1]) }:aA),j28,?_⟩;simp only [go_sem,seval,iG u0,uD u0,k10,e32]
  ·refine lM ?_
   try simp only [eH,dN,↓reduceIte,aV]
   cases j28;refine bW ?_;refine dI ?_;cases h;refine ⟨zd,?_⟩;simp only [go_sem,seval,e32];refine ⟨_,_,Fr.to (q:=q) (p:=P0) ?_ u0 (by simp only [go_sem,seval,uD u0,e32]),?_⟩
   ·simp only [go_sem,e32]
   ·simp only [go_sem,k10,e32]
def Gk (f:aE->aG->aC->Option Bool):Prop:=∀a0 a1 a2 r,f a0 a1 a2=some r->∀(q:Pa) (m:M) (vs:List V) (P0:Pa) (F0 fp0 S0 C0:V),vs.map V.weak1=[.ptr P0 0,.agg ((aC.C a2))]/\m.blk P0=some (sZ F0 fp0 S0 C0 a0 a1)/\fC F0 fp0 S0 C0 m.hp a0/\m.gl 0=.eptr [(cA bK.C cV)] 0 0->SC prog 269 vs q m (λv Y=>v=.lb r/\Y=m)
theorem uS (n:Nat):Gk (kL n):=λa0 a1 a2 r h q m vs P0 F0 fp0 S0 C0 ⟨hv,w0,t0,_⟩=>SC.wva hv (SC.ac w0 λ_ _ _=>cH func269 call269 ntmps269 results269 rfl (wk (.j 2 1 12 [.v 4 Bool λy=>.lb y] [0] [0] [] none .z .z) q m (kL.eq_1 _ _ _ _) h))
def Hb (f:aE->aG->aC->aA->Option (aA × aE × aG)):Prop:=∀a0 a1 a2 a3 r,f a0 a1 a2 a3=some r->∀(q:Pa) (m:M) (vs:List V) (P0:Pa) (F0 fp0 S0 C0:V),vs.map V.weak1=[.ptr P0 0,.agg ((aC.C a2)),.agg ([.ls a3.dJ,.li a3.fB,.li a3.iO,.nilv,.list .none (a3.bH.map aA.C),.list .none (a3.eG.map aA.C),.li a3.gI])]/\m.blk P0=some (sZ F0 fp0 S0 C0 a0 a1)/\fC F0 fp0 S0 C0 m.hp a0/\m.gl 0=.eptr [(cA bK.C cV)] 0 0->SC prog 215 vs q m (λv Y=>∃(S:V) (h:Hp) (vr:Nat->Nat),v=.agg ((aA.C r.1))/\Y=m.ck P0 (sZ F0 fp0 S C0 r.2.1 r.2.2) h vr/\fC F0 fp0 S C0 h r.2.1)
theorem Gj (n:Nat):Hb (qR n):=by
 rintro a0 a1 a2 a3 r h q m vs P0 F0 fp0 S0 C0 ⟨hv,w0,t0,hg0⟩;refine SC.wv hv ?_;refine SC.ap w0 λu0 l0=>?_
 try simp only [go_sem] at w0 l0
 refine wG func215 call215 ntmps215 results215 ?_;unfold qR at h;refine bW ?_;refine zZ (id:=(1::q)) (off:=3) (cs:=[.ls a3.dJ,.li a3.fB,.li a3.iO,.list .self ([].map aB.C),.list .none (a3.bH.map aA.C),.list .none (a3.eG.map aA.C),.li a3.gI]) (by simp only [go_sem,seval]) rfl ?_;refine aR (aR ?_);obtain ⟨x4,h9,h⟩:=aH h;obtain ⟨f6,f7,f8⟩:=bX h9;have f10:a2.aN[0]? = some x4:=f8;obtain ⟨x5,h11,h⟩:=aH h;refine dL λ_ z=>?_;simp only [go_sem,seval,f6,f7,f10];refine SC.bA (uS n a0 a1 x4 _ h11 _ _ _ P0 F0 fp0 S0 C0) ?_;simp only [go_sem,seval];apply z;refine gD h (λc12 h=>?_) (λc12 h=>?_)
 ·refine aR ?_;obtain ⟨x13,h14,h⟩:=aH h;refine jM λ_ z=>?_;simp only [go_sem,seval,f6,f7,f10,c12];refine SC.mono (sV n a0 a1 x4 ({ a3 with aN:=[] }:aA) (-1:Int) _ h14 _ _ _ P0 F0 fp0 S0 C0 (by simp only [go_sem,seval,tX u0,t0,w0,hg0])) ?_;rintro _ _ ⟨h_x13,vr_x13,rfl,rfl,hk_x13⟩;simp only [go_sem,seval,tX u0];apply z;refine bW ?_;refine aR (bW ?_);refine gD h (λc15 h=>?_) (λc15 h=>?_)
  ·refine bW ?_;refine dI ?_
   try simp only [eN]
   cases h;refine ⟨zd,?_⟩;simp only [go_sem,seval,tX u0];refine ⟨S0,_,_,Fr.to (q:=q) (p:=P0) ?_ u0 (by simp only [go_sem,seval,tX u0]),?_⟩
   ·simp only [go_sem]
   ·simp only [go_sem,hk_x13]
  ·refine dA ?_
   refine aR ?_;have s18:=(fC.funcsR hk_x13);obtain ⟨x16,h22,h⟩:=aH h;obtain ⟨f19,f20,f21⟩:=bX h22;obtain ⟨g17,d17,z17,k17⟩:=fC.foc hk_x13 f21;obtain ⟨p17,s23,s24,s25,s26,s27,s28,s29⟩:=k17.rows;refine jM λ_ z=>?_;simp only [go_sem,seval,tX u0,c15,s18.al,xO.ix (P:=prog) (k:=.i64) (fC.funcsR hk_x13) SS f19 f20,s25,k17.hF];apply z;refine aR ?_;obtain ⟨x30,h31,h⟩:=aH h;refine dL λ_ z=>?_;simp only [go_sem,seval,tX u0];refine SC.bA (bN x13.2.1 x13.2.2 (x16.bO != 0) 132 a2.gI _ h31 _ _ _ P0 F0 fp0 S0 C0) ?_;simp only [go_sem,seval];apply z;refine aR ?_;obtain ⟨x32,h33,h⟩:=aH h;refine dL λ_ z=>?_;simp only [go_sem,seval,tX u0];refine SC.mono (iT n x13.2.1 x30 (aK.mk a2.dM x16.bO 0) a2.gI _ h33 _ _ _ P0 F0 fp0 S0 C0 (by simp only [go_sem,seval,hk_x13])) ?_;rintro _ _ ⟨S_x32,h_x32,vr_x32,rfl,rfl,hk_x32⟩;simp only [go_sem,seval,tX u0];apply z;refine bW ?_;refine dI ?_
   try simp only [eN]
   cases h;refine ⟨zd,?_⟩;simp only [go_sem,seval,tX u0];refine ⟨S_x32,_,_,Fr.to (q:=q) (p:=P0) ?_ u0 (by simp only [go_sem,seval,tX u0]),?_⟩
   ·simp only [go_sem]
   ·simp only [go_sem,hk_x32]
 ·refine dA ?_
  refine aR ?_;obtain ⟨x34,h36,h⟩:=aH h;refine dL λ_ z=>?_;simp only [go_sem,seval,f6,f7,f10,c12];refine SC.bA (oT n a0 a1 x4 _ h36 _ _ _ P0 F0 fp0 S0 C0) ?_;simp only [go_sem,seval];apply z;refine aR (jM λ_ z=>?_);simp only [go_sem,seval,tX u0];apply z;refine aR ?_;obtain ⟨x37,h39,h⟩:=aH h;obtain ⟨x38,h40,h⟩:=aH h;refine jM λ_ z=>?_;simp only [go_sem,seval,tX u0];refine SC.bA (Iv x34.1.bR _ h39 _ _ _) ?_;simp only [go_sem,seval,tX u0];refine SC.mono (iT n a0 x34.2 (aK.mk a2.dM x37 0) a2.gI _ h40 _ _ _ P0 F0 fp0 S0 C0 (by simp only [go_sem,seval,tX u0,t0])) ?_;rintro _ _ ⟨S_x38,h_x38,vr_x38,rfl,rfl,hk_x38⟩;simp only [go_sem,seval,tX u0];apply z;refine bW ?_;refine dI ?_;cases h;refine ⟨zd,?_⟩;simp only [go_sem,seval,tX u0];refine ⟨S_x38,_,_,Fr.to (q:=q) (p:=P0) ?_ u0 (by simp only [go_sem,seval,tX u0]),?_⟩
  ·simp only [go_sem]
  ·simp only [go_sem,hk_x38]
def Fc (f:aE->aG->aC->Option (Int × aG)):Prop:=∀a0 a1 a2 r,f a0 a1 a2=some r->∀(q:Pa) (m:M) (vs:List V) (P0:Pa) (F0 fp0 S0 C0:V),vs.map V.weak1=[.ptr P0 0,.agg ((aC.C a2))]/\m.blk P0=some (sZ F0 fp0 S0 C0 a0 a1)/\fC F0 fp0 S0 C0 m.hp a0->SC prog 271 vs q m (λv Y=>v=.li r.1/\Y=(m.set P0 (sZ F0 fp0 S0 C0 a0 r.2)))
theorem Em (n:Nat):Fc (oS n):=λa0 a1 a2 r h q m vs P0 F0 fp0 S0 C0 ⟨hv,w0,t0⟩=>SC.wva hv (SC.ac w0 λ_ _ _=>cH func271 call271 ntmps271 results271 rfl (wk (.j 2 3 20 [.b 0 aG λy=>sZ F0 fp0 S0 C0 a0 y] [0,5] [] [] none .z .z) q m (oS.eq_1 _ _ _ _) h))
def IJ (f:aE->aG->aC->aA->Option (aA × aE × aG)):Prop:=∀a0 a1 a2 a3 r,f a0 a1 a2 a3=some r->∀(q:Pa) (m:M) (vs:List V) (P0:Pa) (F0 fp0 S0 C0:V),vs.map V.weak1=[.ptr P0 0,.agg ((aC.C a2)),.agg ([.ls a3.dJ,.li a3.fB,.li a3.iO,.nilv,.list .none (a3.bH.map aA.C),.list .none (a3.eG.map aA.C),.li a3.gI])]/\m.blk P0=some (sZ F0 fp0 S0 C0 a0 a1)/\fC F0 fp0 S0 C0 m.hp a0/\m.gl 0=.eptr [(cA bK.C cV)] 0 0->SC prog 216 vs q m (λv Y=>∃(h:Hp) (vr:Nat->Nat),v=.agg ((aA.C r.1))/\Y=m.ck P0 (sZ F0 fp0 S0 C0 r.2.1 r.2.2) h vr/\fC F0 fp0 S0 C0 h r.2.1)
theorem If (n:Nat):IJ (tF n):=by
 rintro a0 a1 a2 a3 r h q m vs P0 F0 fp0 S0 C0 ⟨hv,w0,t0,hg0⟩;refine SC.wv hv ?_;refine SC.ap w0 λu0 l0=>?_
 try simp only [go_sem] at w0 l0
 refine wG func216 call216 ntmps216 results216 ?_;unfold tF at h;refine bW ?_;refine zZ (id:=(1::q)) (off:=3) (cs:=[.ls a3.dJ,.li a3.fB,.li a3.iO,.list .self ([].map aB.C),.list .none (a3.bH.map aA.C),.list .none (a3.eG.map aA.C),.li a3.gI]) (by simp only [go_sem,seval]) rfl ?_;refine aR ?_;obtain ⟨x4,h5,h⟩:=aH h;refine dL λ_ z=>?_;simp only [go_sem,seval];refine SC.bA (Em n a0 a1 a2 _ h5 _ _ _ P0 F0 fp0 S0 C0) ?_;simp only [go_sem,seval];apply z;refine aR (aR ?_);obtain ⟨x6,h11,h⟩:=aH h;obtain ⟨f8,f9,f10⟩:=bX h11;have f12:a2.aN[0]? = some x6:=f10;obtain ⟨x7,h13,h⟩:=aH h;refine dL λ_ z=>?_;simp only [go_sem,seval,tX u0,f8,f9,f12];refine SC.bA (uS n a0 x4.2 x6 _ h13 _ _ _ P0 F0 fp0 S0 C0) ?_;simp only [go_sem,seval];apply z;refine gD h (λc14 h=>?_) (λc14 h=>?_)
 ·refine aR ?_;obtain ⟨x15,h16,h⟩:=aH h;refine jM λ_ z=>?_;simp only [go_sem,seval,tX u0,f8,f9,f12,c14];refine SC.mono (sV n a0 x4.2 x6 ({ a3 with aN:=[] }:aA) x4.1 _ h16 _ _ _ P0 F0 fp0 S0 C0 (by simp only [go_sem,seval,t0,hg0])) ?_;rintro _ _ ⟨h_x15,vr_x15,rfl,rfl,hk_x15⟩;simp only [go_sem,seval,tX u0];apply z;refine bW ?_;refine aR (bW ?_);refine gD h (λc17 h=>?_) (λc17 h=>?_)
  ·obtain ⟨x18,h22,h⟩:=aH h;have s23:=(fC.funcsR hk_x15);obtain ⟨x19,h27,h⟩:=aH h;obtain ⟨f24,f25,f26⟩:=bX h27;obtain ⟨g20,d20,z20,k20⟩:=fC.foc hk_x15 f26;obtain ⟨p20,s28,s29,s30,s31,s32,s33,s34⟩:=k20.rows;obtain ⟨x21,h35,h⟩:=aH h;refine jM λ_ z=>?_;simp only [go_sem,seval,tX u0,c17,s23.al,xO.ix (P:=prog) (k:=.i64) (fC.funcsR hk_x15) SS f24 f25,s30,k20.hF];refine SC.bA (jY x15.2.1 x15.2.2 x4.1 _ h22 _ _ _ P0 F0 fp0 S0 C0) ?_;simp only [go_sem,seval,tX u0,s23.al,s30,k20.hF];refine SC.bA (bN x15.2.1 x15.2.2 (x19.bO == x18) 132 a2.gI _ h35 _ _ _ P0 F0 fp0 S0 C0) ?_;simp only [go_sem,seval];apply z;refine bW ?_;refine dI ?_
   try simp only [eN]
   cases h;refine ⟨zd,?_⟩;simp only [go_sem,seval,tX u0];refine ⟨_,_,Fr.to (q:=q) (p:=P0) ?_ u0 (by simp only [go_sem,seval,tX u0]),?_⟩
   ·simp only [go_sem]
   ·simp only [go_sem,hk_x15]
  ·refine dA ?_
   refine bW ?_;refine dI ?_
   try simp only [eN]
   cases h;refine ⟨zd,?_⟩;simp only [go_sem,seval,tX u0];refine ⟨_,_,Fr.to (q:=q) (p:=P0) ?_ u0 (by simp only [go_sem,seval,tX u0]),?_⟩
   ·simp only [go_sem]
   ·simp only [go_sem,hk_x15]
 ·refine dA ?_
  refine aR ?_;obtain ⟨x36,h38,h⟩:=aH h;refine dL λ_ z=>?_;simp only [go_sem,seval,tX u0,f8,f9,f12,c14];refine SC.bA (oT n a0 x4.2 x6 _ h38 _ _ _ P0 F0 fp0 S0 C0) ?_;simp only [go_sem,seval];apply z;refine aR (jM λ_ z=>?_);simp only [go_sem,seval,tX u0];apply z;refine aR ?_;obtain ⟨x39,h42,h⟩:=aH h;obtain ⟨x40,h43,h⟩:=aH h;obtain ⟨x41,h44,h⟩:=aH h;refine jM λ_ z=>?_;simp only [go_sem,seval,tX u0];refine SC.bA (jY a0 x36.2 x4.1 _ h42 _ _ _ P0 F0 fp0 S0 C0) ?_;simp only [go_sem,seval,tX u0];refine SC.bA (Ci x36.1.bR x39 _ h43 _ _ _) ?_;simp only [go_sem,seval,tX u0];refine SC.bA (bN a0 x36.2 x40 132 a2.gI _ h44 _ _ _ P0 F0 fp0 S0 C0) ?_;simp only [go_sem,seval];apply z;refine bW ?_;refine dI ?_;cases h;refine ⟨zd,?_⟩;simp only [go_sem,seval];refine ⟨_,_,Fr.to (q:=q) (p:=P0) ?_ u0 (by simp only [go_sem,seval,tX u0]),?_⟩
  ·simp only [go_sem]
  ·simp only [go_sem,t0]
def GZ (f:aE->aG->aC->Int->Option (aB × aG)):Prop:=∀a0 a1 a2 a3 r,f a0 a1 a2 a3=some r->∀(q:Pa) (m:M) (vs:List V) (P0:Pa) (F0 fp0 S0 C0:V),vs.map V.weak1=[.ptr P0 0,.agg ((aC.C a2)),.li a3]/\m.blk P0=some (sZ F0 fp0 S0 C0 a0 a1)/\fC F0 fp0 S0 C0 m.hp a0/\m.gl 0=.eptr [(cA bK.C cV)] 0 0->SC prog 275 vs q m (λv Y=>v=.agg ((aB.C r.1))/\Y=(m.set P0 (sZ F0 fp0 S0 C0 a0 r.2)))
theorem Gi (n:Nat):GZ (qQ n):=by
 rintro a0 a1 a2 a3 r h q m vs P0 F0 fp0 S0 C0 ⟨hv,w0,t0,hg0⟩;refine SC.wv hv ?_;refine SC.ap w0 λu0 l0=>?_
 try simp only [go_sem] at w0 l0
 refine wG func275 call275 ntmps275 results275 ?_;unfold qQ at h;refine bW ?_;refine aR ?_;obtain ⟨x3,h5,h⟩:=aH h;refine dL λ_ z=>?_;simp only [go_sem,seval];refine SC.bA (kG n a0 a1 a2 _ h5 _ _ _ P0 F0 fp0 S0 C0) ?_;simp only [go_sem,seval];apply z;refine aR (aR ?_);obtain ⟨y6,j6,h⟩:=aH h;refine Bq 17 (λX Y=>X 0=.ptr P0 0/\X 2=.li a3/\X 4=.ptr (0::q) 0/\X 6=.ptr (1::q) 0/\X 7=.ptr (5::q) 0/\X 20=.lb y6/\Y.blk P0=some (sZ F0 fp0 S0 C0 a0 x3.2)/\Y.blk (0::q)=some ((aC.C a2))/\Y.blk (1::q)=some ([.ls [],.li 0,.lw 0,.li 0,.list .self ([].map aB.C),.li 0])/\Y.blk (5::q)=some ((aB.C x3.1))/\Y.gl=m.gl/\Y.hp=m.hp/\m.back q Y=(m.set P0 (sZ F0 fp0 S0 C0 a0 x3.2))) ?_ ?_
 ·rcases AZ j6 with ⟨c7,j6⟩ | ⟨c7,j6⟩
  ·refine dL λ_ z=>?_;simp only [go_sem,seval,tX u0,c7];apply z;cases j6;exact jD
  ·refine dL λ_ z=>?_;simp only [go_sem,seval,tX u0,c7];apply z;cases j6;exact jD
 ·intro E8 m9 e10 _;refine gD h (λc11 h=>?_) (λc11 h=>?_)
  ·obtain ⟨x12,h20,h⟩:=aH h;obtain ⟨f17,f18,f19⟩:=bX h20;obtain ⟨g13,d13,z13,k13⟩:=fC.foc t0 f19;obtain ⟨p13,s21,s22,s23,s24,s25,s26,s27⟩:=k13.rows;have s28:=(fC.funcsR t0);have s14:=fC.fpEq t0 f17;have s29:fC F0 (.pp (tL F0) (a0.f_.toNat*6)) S0 C0 m.hp a0:=by rw [←s14];exact t0
   have s30:=(iP.shC k13.vars);obtain ⟨x15,h34,h⟩:=aH h;obtain ⟨f31,f32,f33⟩:=bX h34;obtain ⟨H39,rs_H39,s35,s36,s37,s38⟩:=iP.readVar k13.vars f33;obtain ⟨x16,h40,h⟩:=aH h;refine jM λ_ z=>?_;simp only [go_sem,seval,s25,k13.hF,s14,xO.ix (P:=prog) (k:=.i64) (iP.shC k13.vars) Or f31 f32,s35,s38,e10];refine SC.bA (bN a0 x3.2 (decide ((i64.wrap x3.1.N_)<x15.jR)) 137 a2.gI _ h40 _ _ _ P0 F0 fp0 S0 C0) ?_;simp only [go_sem,seval,s14];apply z;refine bW ?_;refine dI ?_;cases h;exact jS
  ·refine dA ?_
   refine bW ?_;refine dI ?_;cases h;exact jS
def IK (f:aE->aG->aC->aA->Option (aA × aG)):Prop:=∀a0 a1 a2 a3 r,f a0 a1 a2 a3=some r->∀(q:Pa) (m:M) (vs:List V) (P0:Pa) (F0 fp0 S0 C0:V),vs.map V.weak1=[.ptr P0 0,.agg ((aC.C a2)),.agg ([.ls a3.dJ,.li a3.fB,.li a3.iO,.nilv,.list .none (a3.bH.map aA.C),.list .none (a3.eG.map aA.C),.li a3.gI])]/\m.blk P0=some (sZ F0 fp0 S0 C0 a0 a1)/\fC F0 fp0 S0 C0 m.hp a0/\m.gl 0=.eptr [(cA bK.C cV)] 0 0->SC prog 217 vs q m (λv Y=>v=.agg ((aA.C r.1))/\Y=(m.set P0 (sZ F0 fp0 S0 C0 a0 r.2)))
theorem Ig (n:Nat):IK (tG n):=by
 rintro a0 a1 a2 a3 r h q m vs P0 F0 fp0 S0 C0 ⟨hv,w0,t0,hg0⟩;refine SC.wv hv ?_;refine SC.ap w0 λu0 l0=>?_
 try simp only [go_sem] at w0 l0
 refine wG func217 call217 ntmps217 results217 ?_;unfold tG at h;refine bW ?_;refine zZ (id:=(1::q)) (off:=3) (cs:=[.ls a3.dJ,.li a3.fB,.li a3.iO,.list .self ([].map aB.C),.list .none (a3.bH.map aA.C),.list .none (a3.eG.map aA.C),.li a3.gI]) (by simp only [go_sem,seval]) rfl ?_;refine aR ?_;obtain ⟨x4,h5,h⟩:=aH h;refine dL λ_ z=>?_;simp only [go_sem,seval];refine SC.bA (sU n a0 a1 a2 _ h5 _ _ _ P0 F0 fp0 S0 C0) ?_;simp only [go_sem,seval];apply z;refine aR ?_;obtain ⟨x6,h8,h⟩:=aH h;obtain ⟨x7,h9,h⟩:=aH h;refine jM λ_ z=>?_;simp only [go_sem,seval,tX u0];refine SC.bA (jY a0 x4.2 x4.1 _ h8 _ _ _ P0 F0 fp0 S0 C0) ?_;simp only [go_sem,seval,tX u0];refine SC.bA (bN a0 x4.2 (x6 == 4) 132 a2.gI _ h9 _ _ _ P0 F0 fp0 S0 C0) ?_;simp only [go_sem,seval];apply z;refine aR ?_;obtain ⟨x10,h16,h⟩:=aH h;obtain ⟨f13,f14,f15⟩:=bX h16;have f17:a2.aN[0]? = some x10:=f15;obtain ⟨x11,h18,h⟩:=aH h;refine dL λ_ z=>?_;simp only [go_sem,seval,tX u0,f13,f14,f17];refine SC.bA (Gi n a0 x7 x10 x4.1 _ h18 _ _ _ P0 F0 fp0 S0 C0) ?_;simp only [go_sem,seval];apply z;refine aR ?_;obtain ⟨x19,h25,h⟩:=aH h;obtain ⟨f22,f23,f24⟩:=bX h25;have f26:a2.aN[1]? = some x19:=f24;obtain ⟨x20,h27,h⟩:=aH h;refine dL λ_ z=>?_;simp only [go_sem,seval,tX u0,f22,f23,f26];refine SC.bA (oT n a0 x11.2 x19 _ h27 _ _ _ P0 F0 fp0 S0 C0) ?_;simp only [go_sem,seval];apply z;refine aR (jM λ_ z=>?_);simp only [go_sem,seval,tX u0];apply z;refine aR ?_;obtain ⟨x28,h30,h⟩:=aH h;obtain ⟨x29,h31,h⟩:=aH h;refine jM λ_ z=>?_;simp only [go_sem,seval,tX u0];refine SC.bA (Ci x20.1.bR 2 _ h30 _ _ _) ?_;simp only [go_sem,seval,tX u0];refine SC.bA (bN a0 x20.2 x28 132 a2.gI _ h31 _ _ _ P0 F0 fp0 S0 C0) ?_;simp only [go_sem,seval];apply z;refine bW ?_;refine dI ?_;cases h;exact jS
def Il (f:aE->aG->aC->aA->Bool->Option (aA × aE × aG)):Prop:=∀a0 a1 a2 a3 a4 r,f a0 a1 a2 a3 a4=some r->∀(q:Pa) (m:M) (vs:List V) (P0:Pa) (F0 fp0 S0 C0:V),vs.map V.weak1=[.ptr P0 0,.agg ((aC.C a2)),.agg ([.ls a3.dJ,.li a3.fB,.li a3.iO,.nilv,.list .none (a3.bH.map aA.C),.list .none (a3.eG.map aA.C),.li a3.gI]),.lb a4]/\m.blk P0=some (sZ F0 fp0 S0 C0 a0 a1)/\fC F0 fp0 S0 C0 m.hp a0/\m.gl 0=.eptr [(cA bK.C cV)] 0 0->SC prog 220 vs q m (λv Y=>∃(h:Hp) (vr:Nat->Nat),v=.agg ((aA.C r.1))/\Y=m.ck P0 (sZ F0 fp0 S0 C0 r.2.1 r.2.2) h vr/\fC F0 fp0 S0 C0 h r.2.1)
theorem Hh (n:Nat):Il (sD n):=by
 rintro a0 a1 a2 a3 a4 r h q m vs P0 F0 fp0 S0 C0 ⟨hv,w0,t0,hg0⟩;refine SC.wv hv ?_;refine SC.ap w0 λu0 l0=>?_
 try simp only [go_sem] at w0 l0
 refine wG func220 call220 ntmps220 results220 ?_;unfold sD at h;refine bW ?_;refine zZ (id:=(1::q)) (off:=3) (cs:=[.ls a3.dJ,.li a3.fB,.li a3.iO,.list .self ([].map aB.C),.list .none (a3.bH.map aA.C),.list .none (a3.eG.map aA.C),.li a3.gI]) (by simp only [go_sem,seval]) rfl ?_;refine aR ?_;obtain ⟨y4,j4,h⟩:=aH h;refine Bq 18 (λX Y=>X 0=.ptr P0 0/\X 5=.ptr (0::q) 0/\X 6=.ptr (1::q) 0/\X 8=.ptr (2::q) 0/\Y.blk P0=some (sZ F0 fp0 S0 C0 a0 y4)/\fC F0 fp0 S0 C0 Y.hp a0/\Y.blk (0::q)=some ((aC.C a2))/\Y.blk (1::q)=some ([.ls a3.dJ,.li a3.fB,.li a3.iO,.nilv,.list .none (a3.bH.map aA.C),.list .none (a3.eG.map aA.C),.li a3.gI])/\Y.blk (2::q)=some ([.ls [],.li 0,.li 0,.list .self ([].map aB.C),.list .self ([].map aA.C),.list .self ([].map aA.C),.li 0])/\Y.gl=m.gl/\Fr q P0 m Y/\Y.hp=m.hp) ?_ ?_
 ·rcases AZ j4 with ⟨c5,j4⟩ | ⟨c5,j4⟩
  ·obtain ⟨x6,h13,j4⟩:=aH j4;obtain ⟨f10,f11,f12⟩:=bX h13;obtain ⟨g7,d7,z7,k7⟩:=fC.foc t0 f12;obtain ⟨p7,s14,s15,s16,s17,s18,s19,s20⟩:=k7.rows;have s21:=(fC.funcsR t0);have s8:=fC.fpEq t0 f10;have s22:fC F0 (.pp (tL F0) (a0.f_.toNat*6)) S0 C0 m.hp a0:=by rw [←s8];exact t0
   obtain ⟨x9,h23,j4⟩:=aH j4;refine jM λ_ z=>?_;simp only [go_sem,seval,tX u0,c5,s16,k7.hF,s8,w0];refine SC.bA (bN a0 a1 (x6.bO != 0) 135 a2.gI _ h23 _ _ _ P0 F0 fp0 S0 C0) ?_;simp only [go_sem,seval,s8];apply z;simp only [aV];cases j4;exact jD
  ·obtain ⟨x24,h25,j4⟩:=aH j4;refine jM λ_ z=>?_;simp only [go_sem,seval,c5];refine SC.bA (bN a0 a1 false 135 a2.gI _ h25 _ _ _ P0 F0 fp0 S0 C0) ?_;simp only [go_sem,seval];apply z;simp only [aV];cases j4;exact jD
 ·intro E26 m27 e28 _;refine aR (aR ?_);obtain ⟨y29,j29,h⟩:=aH h;refine Bq 31 (λX Y=>X 0=.ptr P0 0/\X 5=.ptr (0::q) 0/\X 6=.ptr (1::q) 0/\X 8=.ptr (2::q) 0/\X 37=.lb y29/\Y.blk P0=some (sZ F0 fp0 S0 C0 a0 y4)/\fC F0 fp0 S0 C0 Y.hp a0/\Y.blk (0::q)=some ((aC.C a2))/\Y.blk (1::q)=some ([.ls a3.dJ,.li a3.fB,.li a3.iO,.nilv,.list .none (a3.bH.map aA.C),.list .none (a3.eG.map aA.C),.li a3.gI])/\Y.blk (2::q)=some ([.ls [],.li 0,.li 0,.list .self ([].map aB.C),.list .self ([].map aA.C),.list .self ([].map aA.C),.li 0])/\Y.gl=m.gl/\Fr q P0 m Y/\Y.hp=m.hp) ?_ ?_
  ·rcases AZ j29 with ⟨c30,j29⟩ | ⟨c30,j29⟩
   ·obtain ⟨x31,h36,j29⟩:=aH j29;obtain ⟨f33,f34,f35⟩:=bX h36;have f37:a2.aN[0]? = some x31:=f35;obtain ⟨x32,h38,j29⟩:=aH j29;refine dL λ_ z=>?_;simp only [go_sem,seval,c30,f33,f34,f37,e28];refine SC.bA (uS n a0 y4 x31 _ h38 _ _ _ P0 F0 fp0 S0 C0) ?_;simp only [go_sem,seval];apply z;cases j29;exact jD
   ·refine dL λ_ z=>?_;simp only [go_sem,seval,c30,e28];apply z;cases j29;exact jD
  ·intro E39 m40 e41 _;refine gD h (λc42 h=>?_) (λc42 h=>?_)
   ·refine aR ?_;obtain ⟨x43,h48,h⟩:=aH h;obtain ⟨f45,f46,f47⟩:=bX h48;have f49:a2.aN[0]? = some x43:=f47;obtain ⟨x44,h50,h⟩:=aH h;refine jM λ_ z=>?_;simp only [go_sem,seval,f45,f46,f49,e41];refine SC.mono (sV n a0 y4 x43 ({ a3 with aN:=[] }:aA) (-2:Int) _ h50 _ _ _ P0 F0 fp0 S0 C0 (by simp only [go_sem,t0,e41,hg0])) ?_;rintro _ _ ⟨h_x44,vr_x44,rfl,rfl,hk_x44⟩;simp only [go_sem,seval,tX u0,e41];apply z;refine bW ?_;refine aR (bW ?_);refine gD h (λc51 h=>?_) (λc51 h=>?_)
    ·have s58:=(fC.funcsR hk_x44);obtain ⟨x52,h62,h⟩:=aH h;obtain ⟨f59,f60,f61⟩:=bX h62;obtain ⟨g53,d53,z53,k53⟩:=fC.foc hk_x44 f61;obtain ⟨p53,s63,s64,s65,s66,s67,s68,s69⟩:=k53.rows;obtain ⟨x54,h73,h⟩:=aH h;obtain ⟨f70,f71,f72⟩:=bX h73;obtain ⟨g55,d55,z55,k55⟩:=fC.foc hk_x44 f72;have hHF:=k53.hF.symm.trans k55.hF
     injection hHF with hHF
     subst hHF;obtain ⟨p55,s74,s75,s76,s77,s78,s79,s80⟩:=k55.rows;have s56:=fC.fpEq hk_x44 f70;have s81:fC F0 (.pp (tL F0) (x44.2.1.f_.toNat*6)) S0 C0 h_x44 x44.2.1:=by rw [←s56];exact hk_x44
     obtain ⟨x57,h82,h⟩:=aH h;refine jM λ_ z=>?_;simp only [go_sem,seval,tX u0,c51,s58.al,xO.ix (P:=prog) (k:=.i64) (fC.funcsR hk_x44) SS f59 f60,s65,k53.hF,s76,s56,e41];refine SC.bA (bN x44.2.1 x44.2.2 (x52.bO == x54.bO) 132 a2.gI _ h82 _ _ _ P0 F0 fp0 S0 C0) ?_;simp only [go_sem,seval,s56];apply z;refine bW ?_;refine dI ?_
     try simp only [eN]
     cases h;refine ⟨zd,?_⟩;simp only [go_sem,seval,tX u0,s56,e41];refine ⟨_,_,Fr.to (q:=q) (p:=P0) ?_ u0 (by simp only [go_sem,seval,tX u0]),?_⟩
     ·simp only [go_sem,e41]
     ·simp only [go_sem,s81]
    ·refine dA ?_
     refine bW ?_;refine dI ?_
     try simp only [eN]
     cases h;refine ⟨zd,?_⟩;simp only [go_sem,seval,tX u0,e41];refine ⟨_,_,Fr.to (q:=q) (p:=P0) ?_ u0 (by simp only [go_sem,seval,tX u0]),?_⟩
     ·simp only [go_sem,e41]
     ·simp only [go_sem,hk_x44]
   ·refine dA ?_
    refine aR ?_;obtain ⟨x83,h89,h⟩:=aH h;obtain ⟨f86,f87,f88⟩:=bX h89;have f90:a2.aN[0]? = some x83:=f88;obtain ⟨x84,h91,h⟩:=aH h;refine dL λ_ z=>?_;simp only [go_sem,seval,f86,f87,f90,e41];refine SC.bA (oT n a0 y4 x83 _ h91 _ _ _ P0 F0 fp0 S0 C0) ?_;simp only [go_sem,seval];apply z;refine aR (jM λ_ z=>?_);simp only [go_sem,seval,tX u0,e41];apply z;refine aR ?_;obtain ⟨x92,h100,h⟩:=aH h;obtain ⟨f97,f98,f99⟩:=bX h100;obtain ⟨g93,d93,z93,k93⟩:=fC.foc t0 f99;obtain ⟨p93,s101,s102,s103,s104,s105,s106,s107⟩:=k93.rows;have s108:=(fC.funcsR t0);have s94:=fC.fpEq t0 f97;have s109:fC F0 (.pp (tL F0) (a0.f_.toNat*6)) S0 C0 m.hp a0:=by rw [←s94];exact t0
    obtain ⟨x95,h110,h⟩:=aH h;obtain ⟨x96,h111,h⟩:=aH h;refine jM λ_ z=>?_;simp only [go_sem,seval,tX u0,s103,k93.hF,s94,e41];refine SC.bA (Ci x84.1.bR x92.bO _ h110 _ _ _) ?_;simp only [go_sem,seval,tX u0,e41];refine SC.bA (bN a0 x84.2 x95 132 a2.gI _ h111 _ _ _ P0 F0 fp0 S0 C0) ?_;simp only [go_sem,seval,s94];apply z;refine bW ?_;refine dI ?_;cases h;refine ⟨zd,?_⟩;simp only [go_sem,seval,s94,e41];refine ⟨_,_,Fr.to (q:=q) (p:=P0) ?_ u0 (by simp only [go_sem,seval,tX u0]),?_⟩
    ·simp only [go_sem,e41]
    ·simp only [go_sem,s109,e41]
def oV (f:aE->aG->aC->Bool->Option ((List aA) × aE × aG)):Prop:=∀a0 a1 a2 a3 r,f a0 a1 a2 a3=some r->∀(q:Pa) (m:M) (vs:List V) (P0:Pa) (F0 fp0 S0 C0:V),vs.map V.weak1=[.ptr P0 0,.agg ((aC.C a2)),.lb a3]/\m.blk P0=some (sZ F0 fp0 S0 C0 a0 a1)/\fC F0 fp0 S0 C0 m.hp a0/\m.gl 0=.eptr [(cA bK.C cV)] 0 0->SC prog 83 vs q m (λv Y=>∃(S:V) (h:Hp) (vr:Nat->Nat),v=.list .none (r.1.map aA.C)/\Y=m.ck P0 (sZ F0 fp0 S C0 r.2.1 r.2.2) h vr/\fC F0 fp0 S C0 h r.2.1)
def tO (f:aE->aG->aC->Bool->Option (aA × aE × aG)):Prop:=∀a0 a1 a2 a3 r,f a0 a1 a2 a3=some r->∀(q:Pa) (m:M) (vs:List V) (P0:Pa) (F0 fp0 S0 C0:V),vs.map V.weak1=[.ptr P0 0,.agg ((aC.C a2)),.lb a3]/\m.blk P0=some (sZ F0 fp0 S0 C0 a0 a1)/\fC F0 fp0 S0 C0 m.hp a0/\m.gl 0=.eptr [(cA bK.C cV)] 0 0->SC prog 141 vs q m (λv Y=>∃(S:V) (h:Hp) (vr:Nat->Nat),v=.agg ((aA.C r.1))/\Y=m.ck P0 (sZ F0 fp0 S C0 r.2.1 r.2.2) h vr/\fC F0 fp0 S C0 h r.2.1)
def wO (f:aE->aG->aC->aA->Option (aA × aE × aG)):Prop:=∀a0 a1 a2 a3 r,f a0 a1 a2 a3=some r->∀(q:Pa) (m:M) (vs:List V) (P0:Pa) (F0 fp0 S0 C0:V),vs.map V.weak1=[.ptr P0 0,.agg ((aC.C a2)),.agg ([.ls a3.dJ,.li a3.fB,.li a3.iO,.nilv,.list .none (a3.bH.map aA.C),.list .none (a3.eG.map aA.C),.li a3.gI])]/\m.blk P0=some (sZ F0 fp0 S0 C0 a0 a1)/\fC F0 fp0 S0 C0 m.hp a0/\m.gl 0=.eptr [(cA bK.C cV)] 0 0->SC prog 219 vs q m (λv Y=>∃(S:V) (h:Hp) (vr:Nat->Nat),v=.agg ((aA.C r.1))/\Y=m.ck P0 (sZ F0 fp0 S C0 r.2.1 r.2.2) h vr/\fC F0 fp0 S C0 h r.2.1)
theorem Eo {eQ} (vZ:tO eQ) (n:Nat):oV (oU eQ n):=by
 rintro a0 a1 a2 a3 r h q m vs P0 F0 fp0 S0 C0 ⟨hv,w0,t0,hg0⟩;refine SC.wv hv ?_;refine SC.ap w0 λu0 l0=>?_
 try simp only [go_sem] at w0 l0
 refine wG func83 call83 ntmps83 results83 ?_;unfold oU at h;refine bW ?_;refine aR ?_;have s2:=(fC.scopeS t0);refine dL λ_ z=>?_;simp only [go_sem,seval,uD u0,s2.al,w0];apply z;refine bW ?_;refine aR (bW ?_);refine dY ?_;obtain ⟨y8,j8,h⟩:=aH h;refine EK 8 ([].map aA.C) rfl (by simp only [go_sem,seval]) ?_;refine zR (λc X Y=>∃v4 v5 v6 v7 o_v4 j_v4 S_v6,kX eQ a2 a3 c v4 v5 v6 v7=some y8/\X 0=.ptr P0 0/\X 2=.lb a3/\X 4=.ptr (0::q) 0/\X 7=.li (a0.bI.length:Int)/\X 8=.list (.st (.anon o_v4 j_v4)) (v4.map aA.C)/\Y.tok o_v4 j_v4=true/\q <:+ o_v4/\X 17=.list .none (a2.aN.map aC.C)/\X 18=.li (a2.aN.length:Int)/\X 19=.li v5/\Y.blk P0=some (sZ F0 fp0 S_v6 C0 v6 v7)/\fC F0 fp0 S_v6 C0 Y.hp v6/\Y.blk (0::q)=some ((aC.C a2))/\Y.gl=m.gl/\Fr q P0 m Y) n ⟨[],0,a0,a1,(13::q),0,S0,j8,?_⟩ ?_
 ·simp only [go_sem,seval,iG u0,uD u0,t0,w0]
 rintro i3 c9 E10 m11 ⟨v4,v5,v6,v7,o_v4,j_v4,S_v6,j8,e12⟩ _
 rcases c9 with _ | c9
 ·cases j8
 rw [kX] at j8;have bv6:fC F0 fp0 S_v6 C0 m11.hp v6:=by simp only [e12]
 refine bW ?_;refine aR (gD j8 (λc13 j8=>?_) (λc13 j8=>?_))
 ·refine dA ?_
  refine aR (dY (aR ?_));obtain ⟨x14,h19,j8⟩:=aH j8;obtain ⟨f16,f17,f18⟩:=bX h19;refine oB ?_;refine aR (bW ?_);refine gD j8 (λc20 j8=>?_) (λc20 j8=>?_)
  ·refine lM ?_
   try simp only [seval,eH,dN,aV]
   cases j8;refine aR ?_;have s24:=(fC.scopeS bv6);obtain ⟨⟨f21',f22'⟩,h⟩:=cQ h;have f21:0<=(a0.bI.length:Int):=f21';have f22:(a0.bI.length:Int)<=(v6.bI.length:Int):=f22';have s25:xO (CS S_v6 (a0.bI.length)) 1 (v6.bI.take (a0.bI.length)).length:=xO.cutL (fC.scopeS bv6) f22;have k23:fC F0 fp0 (CS S_v6 (a0.bI.length)) C0 m11.hp ({ v6 with bI:=(v6.bI.take (a0.bI.length)) }:aE):=fC.cutS bv6 zb rfl rfl rfl rfl;refine dL λ_ z=>?_;simp only [go_sem,seval,uD u0,c20,s24.al,xO.slHi (P:=prog) (k:=.i64) (fC.scopeS bv6) Xc f21 f22,s25.cells,s25.cok,s25.st1,e12];apply z;refine EL ?_;simp only [go_sem,seval,e12];refine dI ?_;cases h;refine ⟨zd,?_⟩;simp only [go_sem,seval];refine ⟨(CS S_v6 (a0.bI.length)),_,_,Fr.to (q:=q) (p:=P0) ?_ u0 (by simp only [go_sem,seval]),?_⟩
   ·simp only [go_sem,e12]
   ·simp only [go_sem,k23]
  ·refine dA ?_
   try simp only [aV]
   obtain ⟨y26,j26,j8⟩:=aH j8;refine Bq 28 (λX Y=>∃(oy26_8:Pa) (jy26_8:Nat),∃(S_y26_2_1:V),X 0=.ptr P0 0/\X 2=.lb a3/\X 4=.ptr (0::q) 0/\X 7=.li (a0.bI.length:Int)/\X 8=.list (.st (.anon oy26_8 jy26_8)) (y26.1.map aA.C)/\Y.tok oy26_8 jy26_8=true/\q <:+ oy26_8/\X 17=.list .none (a2.aN.map aC.C)/\X 18=.li (a2.aN.length:Int)/\X 19=.li v5/\Y.blk P0=some (sZ F0 fp0 S_y26_2_1 C0 y26.2.1 y26.2.2)/\fC F0 fp0 S_y26_2_1 C0 Y.hp y26.2.1/\Y.blk (0::q)=some ((aC.C a2))/\Y.gl=m.gl/\Fr q P0 m Y) ?_ ?_
   ·rcases AZ j26 with ⟨c27,j26⟩ | ⟨c27,j26⟩
    ·obtain ⟨x28,h29,j26⟩:=aH j26;refine dL λ_ z=>?_;simp only [go_sem,seval,c20,c27,e12];refine SC.mono (vZ v6 v7 x14 (v5 == (i64.wrap ((a2.aN.length:Int) - 1))) _ h29 _ _ _ P0 F0 fp0 S_v6 C0 (by simp only [go_sem,seval,uD u0,bv6,e12,hg0])) ?_;rintro _ _ ⟨S_x28,h_x28,vr_x28,rfl,rfl,hk_x28⟩;obtain ⟨f30,j26⟩:=cQ j26;have f31:v4.length+1<=1073741824:=by first | omega | (simp only [oY,qB,sY] at f30 ⊢;omega)
     have f32:v4.length<=1073741823:=by first | omega | (simp only [oY,qB,sY] at f30 ⊢;omega)
     simp only [go_sem,seval,f31,e12];apply z;cases j26;refine ⟨zc,(26::i3::14::q),0,S_x28,?_⟩;simp only [go_sem,seval,iG u0,uD u0,c27,hk_x28,e12]
    ·obtain ⟨x33,h34,j26⟩:=aH j26;refine dL λ_ z=>?_;simp only [go_sem,seval,c20,c27,e12];refine SC.mono (vZ v6 v7 x14 false _ h34 _ _ _ P0 F0 fp0 S_v6 C0 (by simp only [go_sem,seval,uD u0,bv6,e12,hg0])) ?_;rintro _ _ ⟨S_x33,h_x33,vr_x33,rfl,rfl,hk_x33⟩;obtain ⟨f35,j26⟩:=cQ j26;have f36:v4.length+1<=1073741824:=by first | omega | (simp only [oY,qB,sY] at f35 ⊢;omega)
     have f37:v4.length<=1073741823:=by first | omega | (simp only [oY,qB,sY] at f35 ⊢;omega)
     simp only [go_sem,seval,f36,e12];apply z;cases j26;refine ⟨zc,(26::i3::14::q),0,S_x33,?_⟩;simp only [go_sem,seval,iG u0,uD u0,c27,hk_x33,e12]
   ·rintro E38 m39 ⟨oy26_8,jy26_8,S_y26_2_1,e40⟩ _;simp only [aV,cR];have hk_y26_2_1:fC F0 fp0 S_y26_2_1 C0 m39.hp y26.2.1:=by simp only [e40]
    refine oB ?_;refine ⟨c9,Rh _,y26.1,(i64.wrap (v5+1)),y26.2.1,y26.2.2,oy26_8,jy26_8,S_y26_2_1,j8,?_⟩;simp only [go_sem,seval,hk_y26_2_1,e40]
 ·refine lM ?_
  try simp only [eH,dN,↓reduceIte,aV]
  cases j8;refine aR ?_;have s44:=(fC.scopeS bv6);obtain ⟨⟨f41',f42'⟩,h⟩:=cQ h;have f41:0<=(a0.bI.length:Int):=f41';have f42:(a0.bI.length:Int)<=(v6.bI.length:Int):=f42';have s45:xO (CS S_v6 (a0.bI.length)) 1 (v6.bI.take (a0.bI.length)).length:=xO.cutL (fC.scopeS bv6) f42;have k43:fC F0 fp0 (CS S_v6 (a0.bI.length)) C0 m11.hp ({ v6 with bI:=(v6.bI.take (a0.bI.length)) }:aE):=fC.cutS bv6 zb rfl rfl rfl rfl;refine dL λ_ z=>?_;simp only [go_sem,seval,c13,s44.al,xO.slHi (P:=prog) (k:=.i64) (fC.scopeS bv6) Xc f41 f42,s45.cells,s45.cok,s45.st1,e12];apply z;refine EL ?_;simp only [go_sem,seval,e12];refine dI ?_;cases h;refine ⟨zd,?_⟩;simp only [go_sem,seval];refine ⟨(CS S_v6 (a0.bI.length)),_,_,Fr.to (q:=q) (p:=P0) ?_ u0 (by simp only [go_sem,seval]),?_⟩
  ·simp only [go_sem,e12]
  ·simp only [go_sem,k43]
theorem BQ {dE} (pV:oV dE) {rK} (Fm:wO rK) (n:Nat):tO (lK dE rK n):=by
 rintro a0 a1 a2 a3 r h q m vs P0 F0 fp0 S0 C0 ⟨hv,w0,t0,hg0⟩;refine SC.wv hv ?_;refine SC.ap w0 λu0 l0=>?_
 try simp only [go_sem] at w0 l0
 refine wG func141 call141 ntmps141 results141 ?_;unfold lK at h;refine bW ?_;refine bW ?_;refine zZ (id:=(5::q)) (off:=3) (cs:=[.ls [],.li (-1:Int),.li 0,.list .self ([].map aB.C),.list .self ([].map aA.C),.list .self ([].map aA.C),.li a2.gI]) (by simp only [go_sem,seval]) rfl ?_;refine aR (bW ?_);refine dY (bW ?_);refine gD h (λc4 h=>?_) (λc4 h=>?_)
 ·refine aR ?_;obtain ⟨x5,h10,h⟩:=aH h;obtain ⟨f7,f8,f9⟩:=bX h10;have f11:a2.aN[0]? = some x5:=f9;obtain ⟨x6,h12,h⟩:=aH h;refine dL λ_ z=>?_;simp only [go_sem,seval,c4,f7,f8,f11];refine SC.bA (kG n a0 a1 x5 _ h12 _ _ _ P0 F0 fp0 S0 C0) ?_;simp only [go_sem,seval,uD u0];apply z;obtain ⟨x13,h14,h⟩:=aH h;refine qC λ_ z=>?_;simp only [go_sem,seval,uD u0];refine SC.mono (iT n a0 x6.2 (aK.mk a2.dM 1 0) a2.gI _ h14 _ _ _ P0 F0 fp0 S0 C0 (by simp only [go_sem,seval,uD u0,t0])) ?_;rintro _ _ ⟨S_x13,h_x13,vr_x13,rfl,rfl,hk_x13⟩;simp only [go_sem,seval,uD u0];apply z;simp only [aV,cR];refine bW ?_;refine dI ?_;cases h;refine ⟨zd,?_⟩;simp only [go_sem,seval,uD u0];refine ⟨S_x13,_,_,Fr.to (q:=q) (p:=P0) ?_ u0 (by simp only [go_sem,seval,uD u0]),?_⟩
  ·simp only [go_sem]
  ·simp only [go_sem,hk_x13]
 ·refine bW ?_;refine gD h (λc15 h=>?_) (λc15 h=>?_)
  ·refine aR ?_;obtain ⟨x16,h17,h⟩:=aH h;refine dL λ_ z=>?_;simp only [go_sem,seval,c15];refine SC.mono (Gj n a0 a1 a2 (aA.mk [] (-1:Int) 0 [] [] [] a2.gI) _ h17 _ _ _ P0 F0 fp0 S0 C0 (by simp only [go_sem,seval,uD u0,t0,w0,hg0])) ?_;rintro _ _ ⟨S_x16,h_x16,vr_x16,rfl,rfl,hk_x16⟩;simp only [go_sem,seval,uD u0];apply z;refine dI ?_
   try simp only [eN,nE]
   cases h;refine ⟨zd,?_⟩;simp only [go_sem,seval,uD u0];refine ⟨S_x16,_,_,Fr.to (q:=q) (p:=P0) ?_ u0 (by simp only [go_sem,seval,uD u0]),?_⟩
   ·simp only [go_sem]
   ·simp only [go_sem,hk_x16]
  ·refine bW ?_;refine gD h (λc18 h=>?_) (λc18 h=>?_)
   ·refine aR ?_;obtain ⟨x19,h21,h⟩:=aH h;obtain ⟨x20,h22,h⟩:=aH h;refine jM λ_ z=>?_;simp only [go_sem,seval,c18];refine SC.bA (JI (i64.wrap (min a2.pX 1025)) _ h21 _ _ _) ?_;simp only [go_sem,seval];refine SC.bA (bN a0 a1 x19 136 a2.gI _ h22 _ _ _ P0 F0 fp0 S0 C0) ?_;simp only [go_sem,seval];apply z;refine Kk (id:=(5::q)) (off:=3) (cs:=[.ls [],.li (-1:Int),.li 0,.nilv,.list .self ([].map aA.C),.list .self ([].map aA.C),.li a2.gI]) (by simp only [go_sem,seval,uD u0]) rfl ?_;obtain ⟨x23,h24,h⟩:=aH h;refine qC λ_ z=>?_;simp only [go_sem,seval,uD u0];refine SC.mono (iT n a0 x20 (aK.mk a2.dM 4 (i64.wrap a2.pX)) a2.gI _ h24 _ _ _ P0 F0 fp0 S0 C0 (by simp only [go_sem,seval,uD u0,t0])) ?_;rintro _ _ ⟨S_x23,h_x23,vr_x23,rfl,rfl,hk_x23⟩;simp only [go_sem,seval,uD u0];apply z;simp only [aV,cR];refine bW ?_;refine dI ?_;cases h;refine ⟨zd,?_⟩;simp only [go_sem,seval,uD u0];refine ⟨S_x23,_,_,Fr.to (q:=q) (p:=P0) ?_ u0 (by simp only [go_sem,seval,uD u0]),?_⟩
    ·simp only [go_sem]
    ·simp only [go_sem,hk_x23]
   ·refine bW ?_;refine gD h (λc25 h=>?_) (λc25 h=>?_)
    ·refine aR ?_;obtain ⟨x26,h27,h⟩:=aH h;refine dL λ_ z=>?_;simp only [go_sem,seval,c25];refine SC.mono (If n a0 a1 a2 (aA.mk [] (-1:Int) 0 [] [] [] a2.gI) _ h27 _ _ _ P0 F0 fp0 S0 C0 (by simp only [go_sem,seval,uD u0,t0,w0,hg0])) ?_;rintro _ _ ⟨h_x26,vr_x26,rfl,rfl,hk_x26⟩;simp only [go_sem,seval,uD u0];apply z;refine dI ?_
     try simp only [eN,nE]
     cases h;refine ⟨zd,?_⟩;simp only [go_sem,seval,uD u0];refine ⟨S0,_,_,Fr.to (q:=q) (p:=P0) ?_ u0 (by simp only [go_sem,seval,uD u0]),?_⟩
     ·simp only [go_sem]
     ·simp only [go_sem,hk_x26]
    ·refine bW ?_;refine gD h (λc28 h=>?_) (λc28 h=>?_)
     ·refine aR ?_;obtain ⟨x29,h30,h⟩:=aH h;refine dL λ_ z=>?_;simp only [go_sem,seval,c28];refine SC.bA (Ig n a0 a1 a2 (aA.mk [] (-1:Int) 0 [] [] [] a2.gI) _ h30 _ _ _ P0 F0 fp0 S0 C0) ?_;simp only [go_sem,seval,uD u0];apply z;refine dI ?_
      try simp only [eN,nE]
      cases h;refine ⟨zd,?_⟩;simp only [go_sem,seval];refine ⟨S0,_,_,Fr.to (q:=q) (p:=P0) ?_ u0 (by simp only [go_sem,seval,uD u0]),?_⟩
      ·simp only [go_sem]
      ·simp only [go_sem,t0]
     ·refine bW ?_;refine gD h (λc31 h=>?_) (λc31 h=>?_)
      ·refine aR ?_;obtain ⟨x32,h33,h⟩:=aH h;refine dL λ_ z=>?_;simp only [go_sem,seval,c31];refine SC.mono (sV n a0 a1 a2 (aA.mk [] (-1:Int) 0 [] [] [] a2.gI) (-1:Int) _ h33 _ _ _ P0 F0 fp0 S0 C0 (by simp only [go_sem,seval,uD u0,t0,w0,hg0])) ?_;rintro _ _ ⟨h_x32,vr_x32,rfl,rfl,hk_x32⟩;simp only [go_sem,seval,uD u0];apply z;refine dI ?_
       try simp only [eN,nE]
       cases h;refine ⟨zd,?_⟩;simp only [go_sem,seval,uD u0];refine ⟨S0,_,_,Fr.to (q:=q) (p:=P0) ?_ u0 (by simp only [go_sem,seval,uD u0]),?_⟩
       ·simp only [go_sem]
       ·simp only [go_sem,hk_x32]
      ·refine bW ?_;refine gD h (λc34 h=>?_) (λc34 h=>?_)
       ·refine aR ?_;obtain ⟨x35,h40,h⟩:=aH h;obtain ⟨f37,f38,f39⟩:=bX h40;have f41:a2.aN[0]? = some x35:=f39;obtain ⟨x36,h42,h⟩:=aH h;refine dL λ_ z=>?_;simp only [go_sem,seval,c34,f37,f38,f41];refine SC.bA (kG n a0 a1 x35 _ h42 _ _ _ P0 F0 fp0 S0 C0) ?_;simp only [go_sem,seval,uD u0];apply z;refine aR ?_;obtain ⟨x43,h48,h⟩:=aH h;obtain ⟨f45,f46,f47⟩:=bX h48;have f49:a2.aN[1]? = some x43:=f47;obtain ⟨x44,h50,h⟩:=aH h;refine dL λ_ z=>?_;simp only [go_sem,seval,uD u0,f45,f46,f49];refine SC.mono (pV a0 x36.2 x43 false _ h50 _ _ _ P0 F0 fp0 S0 C0 (by simp only [go_sem,seval,uD u0,t0,hg0])) ?_;rintro _ _ ⟨S_x44,h_x44,vr_x44,rfl,rfl,hk_x44⟩;simp only [go_sem,seval,uD u0];apply z;refine aR ?_;obtain ⟨⟨f51,f52⟩,h⟩:=cQ h;refine oB ?_;refine dY ?_;obtain ⟨y58,j58,h⟩:=aH h;refine MM [] [((5::q),5)] rfl (λc X Y=>∃v54 v55 v56 v57 S_v55,iB dE a2 c v54 v55 v56 v57=some y58/\X 0=.ptr P0 0/\X 6=.ptr (1::q) 0/\X 7=.ptr (5::q) 0/\X 101=.list .none ((a2.aN.drop 2).map aC.C)/\X 102=.li ((a2.aN.drop 2).length:Int)/\X 103=.li v54/\Y.blk P0=some (sZ F0 fp0 S_v55 C0 v55 v56)/\fC F0 fp0 S_v55 C0 Y.hp v55/\Y.blk (1::q)=some ([.ls [],.li 0,.li 0,.list .self ([].map aB.C),.list .self ([].map aA.C),.list .self ([].map aA.C),.li 0])/\Y.blk (5::q)=some ([.ls v57.dJ,.li v57.fB,.li v57.iO,.list .self (v57.aN.map aB.C),.list .none (v57.bH.map aA.C),.list .none (v57.eG.map aA.C),.li v57.gI])/\Y.gl=m.gl/\Fr q P0 m Y) n ⟨0,x44.2.1,x44.2.2,(aA.mk ([105,102]:cB) (-1:Int) 0 [x36.1] x44.1 [] a2.gI),S_x44,j58,?_⟩ ?_
        ·simp only [go_sem,seval,uD u0,hk_x44]
        rintro i53 c59 E60 m61 ⟨v54,v55,v56,v57,S_v55,j58,e62⟩ _
        rcases c59 with _ | c59
        ·cases j58
        rw [iB] at j58;have bv55:fC F0 fp0 S_v55 C0 m61.hp v55:=by simp only [e62]
        refine bW ?_;refine aR (gD j58 (λc63 j58=>?_) (λc63 j58=>?_))
        ·refine dA ?_
         refine aR (dY (aR ?_));obtain ⟨x64,h69,j58⟩:=aH j58;obtain ⟨f66,f67,f68⟩:=bX h69;refine oB ?_;obtain ⟨x70,h71,j58⟩:=aH j58;refine qC λ_ z=>?_;simp only [go_sem,seval,e62];refine SC.mono (pV v55 v56 x64 false _ h71 _ _ _ P0 F0 fp0 S_v55 C0 (by simp only [go_sem,seval,uD u0,bv55,e62,hg0])) ?_;rintro _ _ ⟨S_x70,h_x70,vr_x70,rfl,rfl,hk_x70⟩;simp only [go_sem,seval,uD u0,e62];apply z;simp only [aV,cR];refine oB ?_;refine ⟨c59,Rh _,(i64.wrap (v54+1)),x70.2.1,x70.2.2,({ v57 with eG:=x70.1 }:aA),S_x70,j58,?_⟩;simp only [go_sem,seval,uD u0,hk_x70,e62]
        ·refine lM ?_
         try simp only [eH,dN,↓reduceIte,aV,cR]
         cases j58;refine bW ?_;refine dI ?_;cases h;refine ⟨zd,?_⟩;simp only [go_sem,seval,e62];refine ⟨S_v55,_,_,Fr.to (q:=q) (p:=P0) ?_ u0 (by simp only [go_sem,seval,uD u0,e62]),?_⟩
         ·simp only [go_sem,e62]
         ·simp only [go_sem,bv55]
       ·refine bW ?_;refine gD h (λc72 h=>?_) (λc72 h=>?_)
        ·refine aR ?_;obtain ⟨x73,h74,h⟩:=aH h;refine dL λ_ z=>?_;simp only [go_sem,seval,c72];refine SC.mono (Fm a0 a1 a2 (aA.mk [] (-1:Int) 0 [] [] [] a2.gI) _ h74 _ _ _ P0 F0 fp0 S0 C0 (by simp only [go_sem,seval,uD u0,t0,w0,hg0])) ?_;rintro _ _ ⟨S_x73,h_x73,vr_x73,rfl,rfl,hk_x73⟩;simp only [go_sem,seval,uD u0];apply z;refine dI ?_
         try simp only [eN,nE]
         cases h;refine ⟨zd,?_⟩;simp only [go_sem,seval,uD u0];refine ⟨S_x73,_,_,Fr.to (q:=q) (p:=P0) ?_ u0 (by simp only [go_sem,seval,uD u0]),?_⟩
         ·simp only [go_sem]
         ·simp only [go_sem,hk_x73]
        ·refine bW ?_;refine gD h (λc75 h=>?_) (λc75 h=>?_)
         ·refine aR ?_;obtain ⟨x76,h77,h⟩:=aH h;refine dL λ_ z=>?_;simp only [go_sem,seval,c75];refine SC.mono (Hh n a0 a1 a2 (aA.mk [] (-1:Int) 0 [] [] [] a2.gI) a3 _ h77 _ _ _ P0 F0 fp0 S0 C0 (by simp only [go_sem,seval,uD u0,t0,w0,hg0])) ?_;rintro _ _ ⟨h_x76,vr_x76,rfl,rfl,hk_x76⟩;simp only [go_sem,seval,uD u0];apply z;refine dI ?_
          try simp only [eN,nE]
          cases h;refine ⟨zd,?_⟩;simp only [go_sem,seval,uD u0];refine ⟨S0,_,_,Fr.to (q:=q) (p:=P0) ?_ u0 (by simp only [go_sem,seval,uD u0]),?_⟩
          ·simp only [go_sem]
          ·simp only [go_sem,hk_x76]
         ·refine Kk (id:=(5::q)) (off:=3) (cs:=[.ls [],.li (-1:Int),.li 0,.nilv,.list .self ([].map aA.C),.list .self ([].map aA.C),.li a2.gI]) (by simp only [go_sem,seval]) rfl ?_;refine dA ?_
          try simp only [aV,cR]
          refine bW ?_;refine dI ?_;cases h;refine ⟨zd,?_⟩;simp only [go_sem,seval];refine ⟨S0,_,_,Fr.to (q:=q) (p:=P0) ?_ u0 (by simp only [go_sem,seval,uD u0,w0]),?_⟩
          ·simp only [go_sem]
          ·simp only [go_sem,t0]
theorem Fd {dE} (pV:oV dE) (n:Nat):wO (pQ dE n):=by
 rintro a0 a1 a2 a3 r h q m vs P0 F0 fp0 S0 C0 ⟨hv,w0,t0,hg0⟩;refine SC.wv hv ?_;refine SC.ap w0 λu0 l0=>?_
 try simp only [go_sem] at w0 l0
 refine wG func219 call219 ntmps219 results219 ?_;unfold pQ at h;refine bW ?_;refine zZ (id:=(1::q)) (off:=3) (cs:=[.ls a3.dJ,.li a3.fB,.li a3.iO,.list .self ([].map aB.C),.list .none (a3.bH.map aA.C),.list .none (a3.eG.map aA.C),.li a3.gI]) (by simp only [go_sem,seval]) rfl ?_;refine aR ?_;obtain ⟨x4,h11,h⟩:=aH h;obtain ⟨f8,f9,f10⟩:=bX h11;have f12:a2.aN[0]? = some x4:=f10;obtain ⟨x5,h13,h⟩:=aH h;obtain ⟨x6,h17,h⟩:=aH h;obtain ⟨f14,f15,f16⟩:=bX h17;have f18:a2.aN[1]? = some x6:=f16;obtain ⟨x7,h19,h⟩:=aH h;refine jM λ_ z=>?_;simp only [go_sem,seval,f8,f9,f12,f14,f15,f18];refine SC.bA (kG n a0 a1 x4 _ h13 _ _ _ P0 F0 fp0 S0 C0) ?_;simp only [go_sem,seval,tX u0,f18];refine SC.bA (kG n a0 x5.2 x6 _ h19 _ _ _ P0 F0 fp0 S0 C0) ?_;simp only [go_sem,seval,tX u0];apply z;refine aR ?_;have s20:=(fC.scopeS t0);refine dL λ_ z=>?_;simp only [go_sem,seval,tX u0,s20.al];apply z;refine aR ?_;obtain ⟨x21,h22,h⟩:=aH h;refine dL λ_ z=>?_;simp only [go_sem,seval,tX u0];refine SC.mono (iT n a0 x7.2 (aK.mk a2.dM 1 0) a2.gI _ h22 _ _ _ P0 F0 fp0 S0 C0 (by simp only [go_sem,seval,tX u0,t0])) ?_;rintro _ _ ⟨S_x21,h_x21,vr_x21,rfl,rfl,hk_x21⟩;simp only [go_sem,seval,tX u0];apply z;refine aR ?_;obtain ⟨x23,h28,h⟩:=aH h;obtain ⟨f25,f26,f27⟩:=bX h28;have f29:a2.aN[2]? = some x23:=f27;obtain ⟨x24,h30,h⟩:=aH h;refine dL λ_ z=>?_;simp only [go_sem,seval,tX u0,f25,f26,f29];refine SC.mono (pV x21.2.1 x21.2.2 x23 false _ h30 _ _ _ P0 F0 fp0 S_x21 C0 (by simp only [go_sem,seval,tX u0,hk_x21,hg0])) ?_;rintro _ _ ⟨S_x24,h_x24,vr_x24,rfl,rfl,hk_x24⟩;simp only [go_sem,seval,tX u0];apply z;refine aR ?_;have s34:=(fC.scopeS hk_x24);obtain ⟨⟨f31',f32'⟩,h⟩:=cQ h;have f31:0<=(min (a0.bI.length:Int) (x24.2.1.bI.length:Int)):=f31';have f32:(min (a0.bI.length:Int) (x24.2.1.bI.length:Int))<=(x24.2.1.bI.length:Int):=f32';have s35:xO (CS S_x24 ((min (a0.bI.length:Int) (x24.2.1.bI.length:Int)).toNat)) 1 (x24.2.1.bI.take ((min (a0.bI.length:Int) (x24.2.1.bI.length:Int)).toNat)).length:=xO.cutL (fC.scopeS hk_x24) f32;have k33:fC F0 fp0 (CS S_x24 ((min (a0.bI.length:Int) (x24.2.1.bI.length:Int)).toNat)) C0 h_x24 ({ x24.2.1 with bI:=(x24.2.1.bI.take ((min (a0.bI.length:Int) (x24.2.1.bI.length:Int)).toNat)) }:aE):=fC.cutS hk_x24 zb rfl rfl rfl rfl;refine jM λ_ z=>?_;simp only [go_sem,seval,tX u0,s34.al,xO.slHi (P:=prog) (k:=.i64) (fC.scopeS hk_x24) Xc f31 f32,s35.cells,s35.cok,s35.st1];apply z;refine bW ?_;refine dI ?_;cases h;refine ⟨zd,?_⟩;simp only [go_sem,seval,tX u0];refine ⟨(CS S_x24 ((min (a0.bI.length:Int) (x24.2.1.bI.length:Int)).toNat)),_,_,Fr.to (q:=q) (p:=P0) ?_ u0 (by simp only [go_sem,seval,tX u0]),?_⟩
 ·simp only [go_sem]
 ·simp only [go_sem,k33]
theorem xC:∀n,oV (xN n)/\tO (EY n)/\wO (Jt n)
 | 0=>⟨λ_ _ _ _ _ h=>cK h,λ_ _ _ _ _ h=>cK h,λ_ _ _ _ _ h=>cK h⟩
 | n+1=>
   have ih:=xC n
   ⟨Eo ih.2.1 n,BQ ih.1 ih.2.2 n,Fd ih.1 n⟩
theorem Gl (n:Nat):oV (xN n):=(xC n).1
def ND (f:aC->Option Bool):Prop:=∀a0 r,f a0=some r->By prog 84 [.agg ((aC.C a0))] (.lb r)
theorem MJ:ND (zP):=λa0 r h q m vs hv=>SC.wva hv (cH func84 call84 ntmps84 results84 rfl (wk (.j 2 1 19 [.v 2 Bool λy=>.lb y] [] [] [] none .z .z) q m (zP.eq_1 _) h))
def Ij (f:aE->aG->Int->aC->Option (aE × aG)):Prop:=∀a0 a1 a2 a3 r,f a0 a1 a2 a3=some r->∀(q:Pa) (m:M) (vs:List V) (P0:Pa) (F0 fp0 S0 C0:V),vs.map V.weak1=[.ptr P0 0,.li a2,.agg ((aC.C a3))]/\m.blk P0=some (sZ F0 fp0 S0 C0 a0 a1)/\fC F0 fp0 S0 C0 m.hp a0/\m.gl 0=.eptr [(cA bK.C cV)] 0 0->SC prog 33 vs q m (λv Y=>∃(fp S:V) (h:Hp) (vr:Nat->Nat),v=.tup []/\Y=m.ck P0 (sZ F0 fp S C0 r.1 r.2) h vr/\fC F0 fp S C0 h r.1)
theorem Hg (n:Nat):Ij (mJ n):=by
 rintro a0 a1 a2 a3 r h q m vs P0 F0 fp0 S0 C0 ⟨hv,w0,t0,hg0⟩;refine SC.wv hv ?_;refine SC.ap w0 λu0 l0=>?_
 try simp only [go_sem] at w0 l0
 refine wG func33 call33 ntmps33 results33 ?_;unfold mJ at h;refine bW ?_;refine aR ?_;obtain ⟨x2,h3,h⟩:=aH h;refine dL λ_ z=>?_;simp only [go_sem,seval];refine SC.mono (zI n a0 a1 a2 _ h3 _ _ _ P0 F0 fp0 S0 C0 (by simp only [go_sem,seval,uD u0,t0,w0])) ?_;rintro _ _ ⟨fp_x2,S_x2,h_x2,vr_x2,rfl,rfl,hk_x2⟩;simp only [go_sem,seval];apply z;refine aR ?_;obtain ⟨⟨f4,f5⟩,h⟩:=cQ h;refine oB ?_;refine dY ?_;obtain ⟨y10,j10,h⟩:=aH h;refine zR (λc X Y=>∃v7 v8 v9 S_v8,jZ n a3 c v7 v8 v9=some y10/\X 0=.ptr P0 0/\X 5=.ptr (0::q) 0/\X 18=.list .none ((a3.aN.drop (max (i64.wrap ((a3.aN.length:Int) - 1)) 0).toNat).map aC.C)/\X 19=.li ((a3.aN.drop (max (i64.wrap ((a3.aN.length:Int) - 1)) 0).toNat).length:Int)/\X 20=.li v7/\Y.blk P0=some (sZ F0 fp_x2 S_v8 C0 v8 v9)/\fC F0 fp_x2 S_v8 C0 Y.hp v8/\Y.blk (0::q)=some ((aC.C a3))/\Y.gl=m.gl/\Fr q P0 m Y) n ⟨0,x2.1,x2.2,S_x2,j10,?_⟩ ?_
 ·simp only [go_sem,seval,uD u0,hk_x2]
 rintro i6 c11 E12 m13 ⟨v7,v8,v9,S_v8,j10,e14⟩ _
 rcases c11 with _ | c11
 ·cases j10
 rw [jZ] at j10;have bv8:fC F0 fp_x2 S_v8 C0 m13.hp v8:=by simp only [e14]
 refine bW ?_;refine aR (gD j10 (λc15 j10=>?_) (λc15 j10=>?_))
 ·refine dA ?_
  refine aR (dY (aR ?_));obtain ⟨x16,h21,j10⟩:=aH j10;obtain ⟨f18,f19,f20⟩:=bX h21;refine oB ?_;refine aR ?_;obtain ⟨x22,h33,j10⟩:=aH j10;obtain ⟨f30,f31,f32⟩:=bX h33;obtain ⟨g23,d23,z23,k23⟩:=fC.foc bv8 f32;obtain ⟨p23,s34,s35,s36,s37,s38,s39,s40⟩:=k23.rows;have s41:=(fC.funcsR bv8);have s24:=fC.fpEq bv8 f30;have s42:fC F0 (.pp (tL F0) (v8.f_.toNat*6)) S_v8 C0 m13.hp v8:=by rw [←s24];exact bv8
  obtain ⟨x25,h43,j10⟩:=aH j10;refine jM λ_ z=>?_;simp only [go_sem,seval,uD u0,s24,e14];refine SC.mono (Gl n v8 v9 x16 true _ h43 _ _ _ P0 F0 fp_x2 S_v8 C0 (by simp only [go_sem,seval,uD u0,s24,s42,e14,hg0])) ?_;rintro _ _ ⟨S_x25,h_x25,vr_x25,rfl,rfl,hk_x25⟩;obtain ⟨x26,h47,j10⟩:=aH j10;obtain ⟨f44,f45,f46⟩:=bX h47;obtain ⟨g27,d27,z27,k27⟩:=fC.foc hk_x25 f46;obtain ⟨p27,s48,s49,s50,s51,s52,s53,s54⟩:=k27.rows;have k28:fC F0 fp_x2 S_x25 C0 (qL h_x25 (tL F0) (z27.set (v8.f_.toNat*6+5) (.list .none (x25.1.map aA.C)))) ({ x25.2.1 with p_:=⟨(x25.2.1.p_.bC.set v8.f_.toNat { x26 with bH:=x25.1 })⟩ }:aE):=NK.setBody k27 rfl rfl rfl rfl;have k29:fC F0 (.pp (tL F0) (v8.f_.toNat*6)) S_x25 C0 (qL h_x25 (tL F0) (z27.set (v8.f_.toNat*6+5) (.list .none (x25.1.map aA.C)))) ({ x25.2.1 with p_:=⟨(x25.2.1.p_.bC.set v8.f_.toNat { x26 with bH:=x25.1 })⟩ }:aE):=by rw [←s24];exact k28
  simp only [go_sem,seval,jP,s24,k27.hF,k27.len5];apply z;simp only [aV];obtain ⟨y55,j55,j10⟩:=aH j10;refine Bq 31 (λX Y=>X 0=.ptr P0 0/\X 5=.ptr (0::q) 0/\X 18=.list .none ((a3.aN.drop (max (i64.wrap ((a3.aN.length:Int) - 1)) 0).toNat).map aC.C)/\X 19=.li ((a3.aN.drop (max (i64.wrap ((a3.aN.length:Int) - 1)) 0).toNat).length:Int)/\X 20=.li v7/\Y.blk P0=some (sZ F0 fp_x2 S_x25 C0 ({ x25.2.1 with p_:=⟨(x25.2.1.p_.bC.set v8.f_.toNat { x26 with bH:=x25.1 })⟩ }:aE) y55)/\fC F0 fp_x2 S_x25 C0 Y.hp ({ x25.2.1 with p_:=⟨(x25.2.1.p_.bC.set v8.f_.toNat { x26 with bH:=x25.1 })⟩ }:aE)/\Y.blk (0::q)=some ((aC.C a3))/\Y.gl=m.gl/\Fr q P0 m Y/\Y.hp=(qL h_x25 (tL F0) (z27.set (v8.f_.toNat*6+5) (.list .none (x25.1.map aA.C))))) ?_ ?_
  ·obtain ⟨x56,h62,j55⟩:=aH j55;obtain ⟨f59,f60,f61⟩:=bX h62;obtain ⟨g57,d57,z57,k57⟩:=fC.foc k28 f61;obtain ⟨p57,s63,s64,s65,s66,s67,s68,s69⟩:=k57.rows;have k58:fC F0 (.pp (tL F0) (v8.f_.toNat*6)) S_x25 C0 (qL h_x25 (tL F0) (z27.set (v8.f_.toNat*6+5) (.list .none (x25.1.map aA.C)))) ({ x25.2.1 with p_:=⟨(x25.2.1.p_.bC.set v8.f_.toNat { x26 with bH:=x25.1 })⟩ }:aE):=by rw [←s24];exact k28
   rcases AZ j55 with ⟨c70,j55⟩ | ⟨c70,j55⟩
   ·obtain ⟨x71,h72,j55⟩:=aH j55;refine jM λ_ z=>?_;simp only [go_sem,seval,uD u0,s65,k57.hF,c70,e14];refine SC.bA (bN ({ x25.2.1 with p_:=⟨(x25.2.1.p_.bC.set v8.f_.toNat { x26 with bH:=x25.1 })⟩ }:aE) x25.2.2 true 135 a3.gI _ h72 _ _ _ P0 F0 fp_x2 S_x25 C0) ?_;simp only [go_sem,seval,s24];apply z;simp only [aV];cases j55;exact jD
   ·obtain ⟨x73,h75,j55⟩:=aH j55;obtain ⟨x74,h76,j55⟩:=aH j55;refine jM λ_ z=>?_;simp only [go_sem,seval,uD u0,s65,k57.hF,c70,e14];refine SC.bA (MJ x16 _ h75 _ _ _) ?_;simp only [go_sem,seval,uD u0,e14];refine SC.bA (bN ({ x25.2.1 with p_:=⟨(x25.2.1.p_.bC.set v8.f_.toNat { x26 with bH:=x25.1 })⟩ }:aE) x25.2.2 x73 135 a3.gI _ h76 _ _ _ P0 F0 fp_x2 S_x25 C0) ?_;simp only [go_sem,seval,s24];apply z;simp only [aV];cases j55;exact jD
  ·intro E77 m78 e79 _;simp only [aV,cR];refine oB ?_;refine ⟨c11,Rh _,(i64.wrap (v7+1)),({ x25.2.1 with p_:=⟨(x25.2.1.p_.bC.set v8.f_.toNat { x26 with bH:=x25.1 })⟩ }:aE),y55,S_x25,j10,?_⟩;simp only [go_sem,seval,s24,k29,e79]
 ·refine lM ?_
  try simp only [eH,dN,↓reduceIte]
  cases j10;cases h;refine ⟨zd,?_⟩;simp only [go_sem,c15];refine ⟨fp_x2,S_v8,_,_,Fr.to (q:=q) (p:=P0) ?_ u0 (by simp only [go_sem,e14]),?_⟩
  ·simp only [go_sem,e14]
  ·simp only [go_sem,bv8]
