import Derived.Test.YtnheknbibdgglaaGreatDoorMGMw0
namespace Go.Proofs.YtnheknbibdgglaaGreatDoor.Abs
open Go.RowKit Tryz
open IntKind (i64 u32 u64 u8)
set_option linter.all false
set_option maxRecDepth 10000
set_option maxHeartbeats 2000000
open Tryz
def Hx (f:cQ->Option Int):Prop:=∀a0 r,f a0=some r->∀(q:Pa) (m:M) (vs:List V),vs.map V.weak1=[.ls a0]/\m.gl 0=.eptr [(cA bK.C dD)] 0 0->SC prog 54 vs q m (λv Y=>v=.li r/\Y=m)
theorem Gy (n:Nat):Hx (uJ n):=λa0 r h q m vs ⟨hv,_⟩=>SC.wva hv (fF func54 call54 ntmps54 results54 rfl (wk (.l [.v 6 Int λy=>.li y] [0,5] [] [] none .z .z) q m (uJ.eq_1 _ _) h))
instance:rX 54 (∀n,Hx (uJ n)):=⟨Gy⟩
def JV (f:Int->Option Int):Prop:=∀a0 r,f a0=some r->Ey prog 55 [.lw a0] (.li r)
theorem II:JV (xL):=λa0 r h q m vs hv=>SC.wva hv (fF func55 call55 ntmps55 results55 rfl (wk .z q m (xL.eq_1 _) h))
def Dm (f:aG->aH->aB->Option (aG × aH)):Prop:=∀a0 a1 a2 r,f a0 a1 a2=some r->∀(q:Pa) (m:M) (vs:List V) (P0:Pa) (F0 fp0 S0 C0:V),vs.map V.weak1=[.ptr P0 0,.agg ((aB.C a2))]/\m.blk P0=some (pZ F0 fp0 S0 C0 a0 a1)/\fA F0 fp0 S0 C0 m.hp a0/\m.gl 0=.eptr [(cA bK.C dD)] 0 0->SC prog 26 vs q m (λv Y=>∃(F C:V) (h:Hp) (vr:Nat->Nat),v=.tup []/\Y=m.ck P0 (pZ F fp0 S0 C r.1 r.2) h vr/\fA F fp0 S0 C h r.1)
theorem CN (n:Nat):Dm (oQ n):=by
 rintro a0 a1 a2 r h q m vs P0 F0 fp0 S0 C0 ⟨hv,w0,t0,hg0⟩;refine SC.wv hv ?_;refine SC.ap w0 λu0 l0=>?_
 try simp only [go_sem] at w0 l0
 refine oE func26 call26 ntmps26 results26 ?_;unfold oQ at h;refine bC ?_;refine aN ?_;obtain ⟨x2,h3,h⟩:=aD h;refine bX λ_ z=>?_;simp only [go_sem,seval];refine SC.bA (bM a0 a1 (decide ((a2.aM.length:Int)<=64)) 136 a2.fV _ h3 _ _ _ P0 F0 fp0 S0 C0) ?_;simp only [go_sem,seval];apply z;refine aN (bC ?_);refine cK ?_;obtain ⟨y8,j8,h⟩:=aD h;refine rG (λc X Y=>∃v5 v6 v7 F_v6,kE n a2 c v5 v6 v7=some y8/\X 0=.ptr P0 0/\X 3=.ptr (0::q) 0/\X 17=.list .none (a2.aM.map aB.C)/\X 18=.li (a2.aM.length:Int)/\X 19=.li v5/\Y.blk P0=some (pZ F_v6 fp0 S0 C0 v6 v7)/\fA F_v6 fp0 S0 C0 Y.hp v6/\Y.blk (0::q)=some ((aB.C a2))/\Y.gl=m.gl/\Fr q P0 m Y) n ⟨0,a0,x2,F0,j8,?_⟩ ?_
 ·simp only [go_sem,seval,jZ u0,t0]
 rintro i4 c9 E10 m11 ⟨v5,v6,v7,F_v6,j8,e12⟩ _
 rcases c9 with _ | c9
 ·cases j8
 rw [kE] at j8;have bv6:fA F_v6 fp0 S0 C0 m11.hp v6:=by simp only [e12]
 refine bC ?_;refine aN (cY j8 (λc13 j8=>?_) (λc13 j8=>?_))
 ·refine bL ?_
  refine aN (cK (aN ?_));obtain ⟨x14,h19,j8⟩:=aD j8;obtain ⟨f16,f17,f18⟩:=aY h19;refine dY ?_;refine aN ?_;have s21:=(fA.funcsR bv6);obtain ⟨x20,h22,j8⟩:=aD j8;refine eV λ_ z=>?_;simp only [go_sem,seval,jZ u0,s21.al,e12];refine SC.by_ (xM n v6.p_ x14.dL _ h22 _ _ _ F_v6 fp0 S0 C0 v6 (by simp only [go_sem,bv6,s21.al])) ?_;simp only [go_sem,seval];apply z;refine aN ?_;obtain ⟨y23,j23,j8⟩:=aD j8;refine rE 29 (λX Y=>X 0=.ptr P0 0/\X 3=.ptr (0::q) 0/\X 5=.ptr (3::i4::13::q) 0/\X 17=.list .none (a2.aM.map aB.C)/\X 18=.li (a2.aM.length:Int)/\X 19=.li v5/\Y.blk P0=some (pZ F_v6 fp0 S0 C0 v6 y23)/\fA F_v6 fp0 S0 C0 Y.hp v6/\Y.blk (3::i4::13::q)=some ((aB.C x14))/\Y.blk (0::q)=some ((aB.C a2))/\Y.gl=m.gl/\Fr q P0 m Y/\Y.hp=m11.hp) ?_ ?_
  ·rcases mL j23 with ⟨c24,j23⟩ | ⟨c24,j23⟩
   ·obtain ⟨x25,h27,j23⟩:=aD j23;obtain ⟨x26,h28,j23⟩:=aD j23;refine eV λ_ z=>?_;simp only [go_sem,seval,c24,e12];refine SC.bA (Gy n x14.dL _ h27 _ _ _) ?_;simp only [go_sem,seval];refine SC.bA (bM v6 v7 (x25 == 0) 131 x14.fV _ h28 _ _ _ P0 F_v6 fp0 S0 C0) ?_;simp only [go_sem,seval];apply z;simp only [aR];cases j23;exact jD
   ·obtain ⟨x29,h30,j23⟩:=aD j23;refine eV λ_ z=>?_;simp only [go_sem,seval,c24,e12];refine SC.bA (bM v6 v7 false 131 x14.fV _ h30 _ _ _ P0 F_v6 fp0 S0 C0) ?_;simp only [go_sem,seval];apply z;simp only [aR];cases j23;exact jD
  ·intro E31 m32 e33 _;simp only [aR];obtain ⟨x34,h38,j8⟩:=aD j8;obtain ⟨f39,j8⟩:=bN j8;obtain ⟨R35,R35R,R35l,R35a⟩:=fA.focF bv6 f39;obtain ⟨f40,j8⟩:=bN j8;refine wL λf41=>?_;have f36:m11.hp (46::i4::13::q)=none:=by have:=f41 46 za;simpa only [go_sem,seval,t0,bv6,c13,e33] using this
   have k37:fA (.vec (46::i4::13::q) 6 (v6.p_.aU.length+1)) fp0 S0 C0 (GO m11.hp F_v6 (46::i4::13::q) (R35.flatten++[.ls x14.dL,.lb ((yQ .u32 x14.nY 1) != 0),.li x34,.li 0,.nilv,.nilv])) ({ v6 with p_:=⟨(v6.p_.aU++[(aP.mk x14.dL ((yQ .u32 x14.nY 1) != 0) x34 0 [] [])])⟩ }:aG):=R35a (f:=(aP.mk x14.dL ((yQ .u32 x14.nY 1) != 0) x34 0 [] [])) f36 rfl rfl rfl rfl rfl rfl rfl;refine eV λ_ z=>?_;simp only [go_sem,seval,s21.al,e33];refine SC.bA (II x14.nY _ h38 _ _ _) ?_;simp only [go_sem,seval,s21.al,e33];refine DE (sz:=6) (rows:=R35) (by (try simp only [go_sem,e33]);have hR:=R35R;exact hR) MY zc27 by27 zb zb rfl (by simp only [go_sem,seval]) (by simp only [go_sem,seval]) (by first | omega | (simp only [jJ,mO];omega)) ?_;simp only [go_sem,seval,HJ,List.flatten_nil,R35l,e33];apply z;simp only [aR,bJ];refine dY ?_;refine ⟨c9,EO _,(i64.wrap (v5+1)),({ v6 with p_:=⟨(v6.p_.aU++[(aP.mk x14.dL ((yQ .u32 x14.nY 1) != 0) x34 0 [] [])])⟩ }:aG),y23,(.vec (46::i4::13::q) 6 (v6.p_.aU.length+1)),j8,?_⟩;simp only [go_sem,seval,jZ u0,k37,e33]
 ·refine gE ?_
  try simp only [cV,cM,↓reduceIte,aR]
  cases j8;obtain ⟨⟨f44,f45⟩,h⟩:=bN h;refine wL λf46=>?_;have f42:m11.hp (18::q)=none:=by have:=f46 18 za;simpa only [go_sem,seval,t0,bv6,c13,e12] using this
  have k43:fA F_v6 fp0 S0 (.vec (18::q) 1 a2.aM.length) (tH m11.hp (18::q) (List.replicate a2.aM.length [V.nilv]).flatten) ({ v6 with cJ:=(List.replicate a2.aM.length []) }:aG):=fA.mkCalls (n:=a2.aM.length) bv6 f42 rfl rfl rfl rfl;refine kM λ_ z=>?_;simp only [go_sem,seval,c13,f44,f45,e12];apply z;simp only [];cases h;refine ⟨zc,?_⟩;simp only [go_sem,gR];refine ⟨F_v6,(.vec (18::q) 1 a2.aM.length),_,_,Fr.to (q:=q) (p:=P0) ?_ u0 (by simp only [go_sem,seval]),?_⟩
  ·simp only [go_sem,e12]
  ·simp only [go_sem,k43]
def Dr (f:aG->aH->Int->Option (aG × aH)):Prop:=∀a0 a1 a2 r,f a0 a1 a2=some r->∀(q:Pa) (m:M) (vs:List V) (P0:Pa) (F0 fp0 S0 C0:V),vs.map V.weak1=[.ptr P0 0,.li a2]/\m.blk P0=some (pZ F0 fp0 S0 C0 a0 a1)/\fA F0 fp0 S0 C0 m.hp a0->SC prog 56 vs q m (λv Y=>∃(fp S:V) (h:Hp) (vr:Nat->Nat),v=.tup []/\Y=m.ck P0 (pZ F0 fp S C0 r.1 r.2) h vr/\fA F0 fp S C0 h r.1)
theorem vA (n:Nat):Dr (mD n):=by
 rintro a0 a1 a2 r h q m vs P0 F0 fp0 S0 C0 ⟨hv,w0,t0⟩;refine SC.wv hv ?_;refine SC.ap w0 λu0 l0=>?_
 try simp only [go_sem] at w0 l0
 refine oE func56 call56 ntmps56 results56 ?_;unfold mD at h;refine aN ?_;have s6:=(fA.funcsR t0);obtain ⟨x1,h10,h⟩:=aD h;obtain ⟨f7,f8,f9⟩:=aY h10;obtain ⟨g2,d2,z2,k2⟩:=fA.foc t0 f9;obtain ⟨p2,s11,s12,s13,s14,s15,s16,s17⟩:=k2.rows;have k3:fA F0 (.pp (qI F0) (a2.toNat*6)) S0 C0 m.hp ({ a0 with f_:=a2 }:aG):=fA.setFn t0 (by assumption) rfl rfl rfl rfl;have k4:fA F0 (.pp (qI F0) (a2.toNat*6)) .nilv C0 m.hp ({ a0 with f_:=a2,bI:=[] }:aG):=fA.nilS k3 rfl rfl rfl rfl;have k5:fA F0 (.pp (qI F0) (a2.toNat*6)) .nilv C0 m.hp ({ a0 with f_:=a2,bI:=[],fU:=a2 }:aG):=fA.same k4 rfl rfl rfl rfl;refine bX λ_ z=>?_;simp only [go_sem,seval,s6.al,tV.ix (P:=prog) (k:=.i64) (fA.funcsR t0) MY f7 f8,w0];apply z;refine vN (id:=P0) (off:=2) (cs:=[F0,.pp (qI F0) (a2.toNat*6),.list .self [],C0,.li ({ a0 with f_:=a2,bI:=[],fU:=a2 }:aG).fU,.li a1.e_,.li a1.Cn]) (by simp only [go_sem,seval]) rfl ?_;refine aN ?_;obtain ⟨g18,d18,z18,k18⟩:=fA.foc k5 f9;obtain ⟨p18,s20,s21,s22,s23,s24,s25,s26⟩:=k18.rows;refine bX λ_ z=>?_;simp only [go_sem,seval,s14,k2.hF];apply z;refine cK ?_;obtain ⟨y30,j30,h⟩:=aD h;refine rG (λc X Y=>∃v28 v29 S_v29,iW x1 c v28 v29=some y30/\X 0=.ptr P0 0/\X 28=.li x1.aQ/\X 29=.li v28/\Y.blk P0=some (pZ F0 (.pp (qI F0) (a2.toNat*6)) S_v29 C0 v29 a1)/\fA F0 (.pp (qI F0) (a2.toNat*6)) S_v29 C0 Y.hp v29/\Y.gl=m.gl/\Fr q P0 m Y) n ⟨0,({ a0 with f_:=a2,bI:=[],fU:=a2 }:aG),.nilv,j30,?_⟩ ?_
 ·simp only [go_sem,seval,k5]
 rintro i27 c31 E32 m33 ⟨v28,v29,S_v29,j30,e34⟩ _
 rcases c31 with _ | c31
 ·cases j30
 rw [iW] at j30;have bv29:fA F0 (.pp (qI F0) (a2.toNat*6)) S_v29 C0 m33.hp v29:=by simp only [e34]
 refine bC ?_;refine aN (cY j30 (λc35 j30=>?_) (λc35 j30=>?_))
 ·refine bL ?_
  refine aN (cK (bC ?_));have s38:=(fA.scopeS bv29);obtain ⟨f39,j30⟩:=bN j30;refine wL λf40=>?_;have f36:m33.hp (10::i27::28::q)=none:=by have:=f40 10 za;simpa only [go_sem,seval,t0,k3,k4,k5,bv29,c35,e34] using this
  have k37:fA F0 (.pp (qI F0) (a2.toNat*6)) (.vec (10::i27::28::q) 1 (v29.bI.length+1)) C0 (GO m33.hp S_v29 (10::i27::28::q) ((v29.bI.map (cI .i64)).flatten++[.li v28])) ({ v29 with bI:=(v29.bI++[v28]) }:aG):=fA.appS bv29 f36 v28 rfl rfl rfl rfl;refine kM λ_ z=>?_;simp only [go_sem,seval,s38.al,e34];refine DE (sz:=1) (rows:=(v29.bI.map (cI .i64))) (by (try simp only [go_sem,seval,t0,k3,k4,k5,bv29,c35,k37,e34]);have hR:=(fA.scopeR bv29);exact hR) Ty zc3 by3 zb zb rfl (by simp only [go_sem]) (by simp only [go_sem,seval]) (by first | omega | (simp only [wM,jJ,mO];omega)) ?_;simp only [go_sem,seval,HJ,List.flatten_nil,e34];apply z;simp only [aR,bJ];refine dY ?_;refine ⟨c31,EO _,(i64.wrap (v28+1)),({ v29 with bI:=(v29.bI++[v28]) }:aG),(.vec (10::i27::28::q) 1 (v29.bI.length+1)),j30,?_⟩;simp only [go_sem,seval,k37,e34]
 ·refine gE ?_
  try simp only [cV,cM,↓reduceIte]
  cases j30;cases h;refine ⟨zc,?_⟩;simp only [go_sem,c35];refine ⟨(.pp (qI F0) (a2.toNat*6)),S_v29,_,_,Fr.to (q:=q) (p:=P0) ?_ u0 (by simp only [go_sem,e34]),?_⟩
  ·simp only [go_sem,e34]
  ·simp only [go_sem,bv29]
def KD (f:Int->Option Bool):Prop:=∀a0 r,f a0=some r->Ey prog 88 [.li a0] (.lb r)
theorem Fu:KD (wH):=λa0 r h q m vs hv=>SC.wva hv (fF func88 call88 ntmps88 results88 rfl (wk (.j 2 1 21 [.v 2 Bool λy=>.lb y] [] [] [] none .z .z) q m (wH.eq_1 _) h))
def xB (f:aG->aH->cQ->Option Int):Prop:=∀a0 a1 a2 r,f a0 a1 a2=some r->∀(q:Pa) (m:M) (vs:List V) (P0:Pa) (F0 fp0 S0 C0:V),vs.map V.weak1=[.ptr P0 0,.ls a2]/\m.blk P0=some (pZ F0 fp0 S0 C0 a0 a1)/\fA F0 fp0 S0 C0 m.hp a0->SC prog 128 vs q m (λv Y=>v=.li r/\Y=m)
theorem wE (n:Nat):xB (lC n):=by
 rintro a0 a1 a2 r h q m vs P0 F0 fp0 S0 C0 ⟨hv,w0,t0⟩;refine SC.wv hv ?_;refine SC.apart w0 λu0=>?_
 try simp only [go_sem] at w0
 refine oE func128 call128 ntmps128 results128 ?_;unfold lC at h;refine bC ?_;refine aN (aN ?_);have s1:=(fA.scopeS t0);refine bX λ_ z=>?_;simp only [go_sem,seval,s1.al,w0];apply z;refine cK ?_;obtain ⟨y4,j4,h⟩:=aD h;refine rG (λc X Y=>∃v3,kR a0 a2 c v3=some y4/\X 0=.ptr P0 0/\X 1=.ls a2/\X 5=.li v3/\Y.blk P0=some (pZ F0 fp0 S0 C0 a0 a1)/\Y.gl=m.gl/\Y.hp=m.hp/\m.back q Y=m) n ⟨(i64.wrap ((a0.bI.length:Int) - 1)),j4,?_⟩ ?_
 ·simp only [go_sem,seval,bG,w0]
 rintro i2 c5 E6 m7 ⟨v3,j4,e8⟩ _
 rcases c5 with _ | c5
 ·cases j4
 rw [kR] at j4;refine aN (bC ?_);refine cY j4 (λc9 j4=>?_) (λc9 j4=>?_)
 ·refine bL ?_
  refine aN (cK (aN ?_));obtain ⟨x10,h18,j4⟩:=aD j4;obtain ⟨f15,f16,f17⟩:=aY h18;obtain ⟨g11,d11,z11,k11⟩:=fA.foc t0 f17;obtain ⟨p11,s19,s20,s21,s22,s23,s24,s25⟩:=k11.rows;have s26:=(fA.funcsR t0);have s12:=fA.fpEq t0 f15;have s27:fA F0 (.pp (qI F0) (a0.f_.toNat*6)) S0 C0 m.hp a0:=by rw [←s12];exact t0
  have s28:=(iF.shC k11.vars);obtain ⟨x13,h32,j4⟩:=aD j4;obtain ⟨f29,f30,f31⟩:=aY h32;obtain ⟨H35,rs_H35,s33,s34⟩:=iF.readI' (fA.scopeR t0) f31;obtain ⟨x14,h39,j4⟩:=aD j4;obtain ⟨f36,f37,f38⟩:=aY h39;obtain ⟨H44,rs_H44,s40,s41,s42,s43⟩:=iF.readVar k11.vars f38;refine eV λ_ z=>?_;simp only [go_sem,seval,s1.al,s23,k11.hF,s12,f29,tV.ix (P:=prog) (k:=.i64) (fA.scopeS t0) Ty f29 f30,s33,s34,tV.ix (P:=prog) (k:=.i64) (iF.shC k11.vars) Jl f36 f37,s40,s41,e8];apply z;refine cY j4 (λc45 j4=>?_) (λc45 j4=>?_)
  ·refine xN ?_;simp only [go_sem,seval,s1.al,s12,tV.ix (P:=prog) (k:=.i64) (fA.scopeS t0) Ty f29 f30,s33,s34,c45,e8];refine cB ?_
   try simp only [cE,gP]
   cases j4;simp only [PQ] at h;cases h;exact jS
  ·refine bL ?_
   try simp only [aR,bJ]
   refine dY ?_;refine ⟨c5,EO _,(i64.wrap (v3 - 1)),j4,?_⟩;simp only [go_sem,seval,s12,e8]
 ·refine gE ?_
  try simp only [cV,cM,↓reduceIte,aR]
  cases j4;simp only [SP] at h;refine bC ?_;refine cB ?_;cases h;exact jS
instance:rX 128 (∀n,xB (lC n)):=⟨wE⟩
def BL (f:aG->aH->aJ->Int->Option (Int × aG × aH)):Prop:=∀a0 a1 a2 a3 r,f a0 a1 a2 a3=some r->∀(q:Pa) (m:M) (vs:List V) (P0:Pa) (F0 fp0 S0 C0:V),vs.map V.weak1=[.ptr P0 0,.agg ((aJ.C a2)),.li a3]/\m.blk P0=some (pZ F0 fp0 S0 C0 a0 a1)/\fA F0 fp0 S0 C0 m.hp a0->SC prog 89 vs q m (λv Y=>∃(S:V) (h:Hp) (vr:Nat->Nat),v=.li r.1/\Y=m.ck P0 (pZ F0 fp0 S C0 r.2.1 r.2.2) h vr/\fA F0 fp0 S C0 h r.2.1)
theorem iK (n:Nat):BL (eU n):=by
 rintro a0 a1 a2 a3 r h q m vs P0 F0 fp0 S0 C0 ⟨hv,w0,t0⟩;refine SC.wv hv ?_;refine SC.ap w0 λu0 l0=>?_
 try simp only [go_sem] at w0 l0
 refine oE func89 call89 ntmps89 results89 ?_;unfold eU at h;refine bC ?_;refine aN ?_;obtain ⟨x2,h4,h⟩:=aD h;obtain ⟨x3,h5,h⟩:=aD h;refine bX λ_ z=>?_;simp only [go_sem,seval];refine SC.bA (wE n a0 a1 a2.gS _ h4 _ _ _ P0 F0 fp0 S0 C0) ?_;simp only [go_sem,seval];refine SC.bA (bM a0 a1 (decide (x2<0)) 131 a3 _ h5 _ _ _ P0 F0 fp0 S0 C0) ?_;simp only [go_sem,seval];apply z;refine aN ?_;obtain ⟨x6,h13,h⟩:=aD h;obtain ⟨f10,f11,f12⟩:=aY h13;obtain ⟨g7,d7,z7,k7⟩:=fA.foc t0 f12;obtain ⟨p7,s14,s15,s16,s17,s18,s19,s20⟩:=k7.rows;have s21:=(fA.funcsR t0);have s8:=fA.fpEq t0 f10;have s22:fA F0 (.pp (qI F0) (a0.f_.toNat*6)) S0 C0 m.hp a0:=by rw [←s8];exact t0
 have s23:=(iF.shC k7.vars);obtain ⟨x9,h24,h⟩:=aD h;refine bX λ_ z=>?_;simp only [go_sem,seval,s18,k7.hF,s8,s23.al];refine SC.bA (bM a0 x3 (decide ((x6.aO.length:Int)<250)) 136 a3 _ h24 _ _ _ P0 F0 fp0 S0 C0) ?_;simp only [go_sem,seval,s8];apply z;refine aN (bC ?_);refine cY h (λc25 h=>?_) (λc25 h=>?_)
 ·refine bC ?_;refine cB ?_
  try simp only [cE]
  cases h;refine ⟨zc,?_⟩;simp only [go_sem,seval,s8];refine ⟨S0,_,_,Fr.to (q:=q) (p:=P0) ?_ u0 (by simp only [go_sem,seval]),?_⟩
  ·simp only [go_sem]
  ·simp only [go_sem,s22]
 ·refine bL ?_
  refine xN ?_;simp only [go_sem,seval,s18,k7.hF,s23.al,c25];refine aN ?_;obtain ⟨f29,h⟩:=bN h;refine wL λf30=>?_;have f26:m.hp (49::q)=none:=by have:=f30 49 za;simpa only [go_sem,seval,t0,c25] using this
  have k27:fA F0 fp0 S0 C0 (tH (GO m.hp g7 (49::q) ((x6.aO.map aJ.C).flatten++[.ls a2.gS,.li a2.bF,.li a2.gA])) (qI F0) (z7.set (a0.f_.toNat*6+4) (.vec (49::q) 3 (x6.aO.length+1)))) ({ a0 with p_:=⟨(a0.p_.aU.set a0.f_.toNat { x6 with aO:=(x6.aO++[a2]) })⟩ }:aG):=IO.appVars k7 f26 a2 rfl rfl rfl rfl;have k28:fA F0 (.pp (qI F0) (a0.f_.toNat*6)) S0 C0 (tH (GO m.hp g7 (49::q) ((x6.aO.map aJ.C).flatten++[.ls a2.gS,.li a2.bF,.li a2.gA])) (qI F0) (z7.set (a0.f_.toNat*6+4) (.vec (49::q) 3 (x6.aO.length+1)))) ({ a0 with p_:=⟨(a0.p_.aU.set a0.f_.toNat { x6 with aO:=(x6.aO++[a2]) })⟩ }:aG):=by rw [←s8];exact k27
  refine eV λ_ z=>?_;simp only [go_sem,seval,lR u0,s18,k7.hF];refine DE (sz:=3) (rows:=(x6.aO.map aJ.C)) (by (try simp only [go_sem]);have hR:=k7.vars;exact hR) Jl zc47 by47 zb zb rfl (by simp only [go_sem,seval]) (by simp only [go_sem,seval]) (by first | omega | (simp only [wM,jJ,mO];omega)) ?_;simp only [go_sem,seval,HJ,List.flatten_nil,gR,IO.apF k7 f26,k7.len4];apply z;refine aN ?_;have s34:=(fA.scopeS k27);obtain ⟨f35,h⟩:=bN h;refine wL λf36=>?_;have f31:(tH (GO m.hp g7 (49::q) ((x6.aO.map aJ.C).flatten++[.ls a2.gS,.li a2.bF,.li a2.gA])) (qI F0) (z7.set (a0.f_.toNat*6+4) (.vec (49::q) 3 (x6.aO.length+1)))) (60::q)=none:=by have:=f36 60 za;simpa only [go_sem,seval,t0,c25,k27,k28] using this
  have k32:fA F0 fp0 (.vec (60::q) 1 (a0.bI.length+1)) C0 (GO (tH (GO m.hp g7 (49::q) ((x6.aO.map aJ.C).flatten++[.ls a2.gS,.li a2.bF,.li a2.gA])) (qI F0) (z7.set (a0.f_.toNat*6+4) (.vec (49::q) 3 (x6.aO.length+1)))) S0 (60::q) ((a0.bI.map (cI .i64)).flatten++[.li (x6.aO.length:Int)])) ({ a0 with p_:=⟨(a0.p_.aU.set a0.f_.toNat { x6 with aO:=(x6.aO++[a2]) })⟩,bI:=(a0.bI++[(x6.aO.length:Int)]) }:aG):=fA.appS k27 f31 (x6.aO.length:Int) rfl rfl rfl rfl;have k33:fA F0 (.pp (qI F0) (a0.f_.toNat*6)) (.vec (60::q) 1 (a0.bI.length+1)) C0 (GO (tH (GO m.hp g7 (49::q) ((x6.aO.map aJ.C).flatten++[.ls a2.gS,.li a2.bF,.li a2.gA])) (qI F0) (z7.set (a0.f_.toNat*6+4) (.vec (49::q) 3 (x6.aO.length+1)))) S0 (60::q) ((a0.bI.map (cI .i64)).flatten++[.li (x6.aO.length:Int)])) ({ a0 with p_:=⟨(a0.p_.aU.set a0.f_.toNat { x6 with aO:=(x6.aO++[a2]) })⟩,bI:=(a0.bI++[(x6.aO.length:Int)]) }:aG):=by rw [←s8];exact k32
  refine bX λ_ z=>?_;simp only [go_sem,seval,s34.al];refine DE (sz:=1) (rows:=(a0.bI.map (cI .i64))) (by (try simp only [go_sem]);have hR:=(fA.scopeR k27);exact hR) Ty zc3 by3 zb zb rfl (by simp only [go_sem]) (by simp only [go_sem,seval]) (by first | omega | (simp only [wM,jJ,mO];omega)) ?_;simp only [go_sem,seval,HJ,List.flatten_nil];apply z;refine bC ?_;refine cB ?_;cases h;refine ⟨zc,?_⟩;simp only [go_sem,seval,s8];refine ⟨(.vec (60::q) 1 (a0.bI.length+1)),_,_,Fr.to (q:=q) (p:=P0) ?_ u0 (by simp only [go_sem,seval]),?_⟩
  ·simp only [go_sem]
  ·simp only [go_sem,k33]
def CK (f:aG->aH->(List aB)->Option (aG × aH)):Prop:=∀a0 a1 a2 r,f a0 a1 a2=some r->∀(q:Pa) (m:M) (vs:List V) (P0:Pa) (F0 fp0 S0 C0:V),vs.map V.weak1=[.ptr P0 0,.list .none (a2.map aB.C)]/\m.blk P0=some (pZ F0 fp0 S0 C0 a0 a1)/\fA F0 fp0 S0 C0 m.hp a0->SC prog 57 vs q m (λv Y=>∃(S:V) (h:Hp) (vr:Nat->Nat),v=.tup []/\Y=m.ck P0 (pZ F0 fp0 S C0 r.1 r.2) h vr/\fA F0 fp0 S C0 h r.1)
theorem BF (n:Nat):CK (qL n):=by
 rintro a0 a1 a2 r h q m vs P0 F0 fp0 S0 C0 ⟨hv,w0,t0⟩;refine SC.wv hv ?_;refine SC.ap w0 λu0 l0=>?_
 try simp only [go_sem] at w0 l0
 refine oE func57 call57 ntmps57 results57 ?_;unfold qL at h;refine aN (bC ?_);refine cK ?_;obtain ⟨y5,j5,h⟩:=aD h;refine rG (λc X Y=>∃v2 v3 v4 S_v3,jP n a2 c v2 v3 v4=some y5/\X 0=.ptr P0 0/\X 7=.list .none (a2.map aB.C)/\X 8=.li (a2.length:Int)/\X 9=.li v2/\Y.blk P0=some (pZ F0 fp0 S_v3 C0 v3 v4)/\fA F0 fp0 S_v3 C0 Y.hp v3/\Y.gl=m.gl/\Fr q P0 m Y) n ⟨0,a0,a1,S0,j5,?_⟩ ?_
 ·simp only [go_sem,seval,t0,w0]
 rintro i1 c6 E7 m8 ⟨v2,v3,v4,S_v3,j5,e9⟩ _
 rcases c6 with _ | c6
 ·cases j5
 rw [jP] at j5;have bv3:fA F0 fp0 S_v3 C0 m8.hp v3:=by simp only [e9]
 refine bC ?_;refine aN (cY j5 (λc10 j5=>?_) (λc10 j5=>?_))
 ·refine bL ?_
  refine aN ?_;obtain ⟨y11,j11,j5⟩:=aD j5;refine rE 42 (λX Y=>∃(S_y11_1:V),X 0=.ptr P0 0/\X 7=.list .none (a2.map aB.C)/\X 8=.li (a2.length:Int)/\X 9=.li v2/\Y.blk P0=some (pZ F0 fp0 S_y11_1 C0 y11.1 y11.2)/\fA F0 fp0 S_y11_1 C0 Y.hp y11.1/\Y.gl=m.gl/\Fr q P0 m Y) ?_ ?_
  ·refine cK (aN ?_);obtain ⟨x12,h17,j11⟩:=aD j11;obtain ⟨f14,f15,f16⟩:=aY h17;refine dY ?_;refine bC ?_;refine aN (aN ?_);obtain ⟨y19,j19,j11⟩:=aD j11;refine rE 22 (λX Y=>X 0=.ptr P0 0/\X 5=.ptr (3::i1::3::q) 0/\X 6=.ptr (11::i1::3::q) 0/\X 7=.list .none (a2.map aB.C)/\X 8=.li (a2.length:Int)/\X 9=.li v2/\X 27=.lb y19/\Y.blk P0=some (pZ F0 fp0 S_v3 C0 v3 v4)/\fA F0 fp0 S_v3 C0 Y.hp v3/\Y.blk (3::i1::3::q)=some ((aB.C x12))/\Y.blk (11::i1::3::q)=some ((aJ.C (aJ.mk x12.dL (i64.wrap x12.nY) 0)))/\Y.gl=m.gl/\Fr q P0 m Y/\Y.hp=m8.hp) ?_ ?_
   ·rcases mL j19 with ⟨c20,j19⟩ | ⟨c20,j19⟩
    ·refine bX λ_ z=>?_;simp only [go_sem,seval,c20];apply z;cases j19;exact jD
    ·refine bX λ_ z=>?_;simp only [go_sem,seval,c20];apply z;cases j19;exact jD
   ·intro E21 m22 e23 _;refine cY j11 (λc24 j11=>?_) (λc24 j11=>?_)
    ·refine aN ?_;obtain ⟨x25,h29,j11⟩:=aD j11;obtain ⟨f26,f27,f28⟩:=aY h29;have f30:x12.aM[0]? = some x25:=f28;refine dY ?_;obtain ⟨x31,h33,j11⟩:=aD j11;obtain ⟨x32,h34,j11⟩:=aD j11;refine eV λ_ z=>?_;simp only [go_sem,seval,e23];refine SC.bA (Fu (i64.wrap x25.nY) _ h33 _ _ _) ?_;simp only [go_sem,seval,e23];refine SC.bA (bM v3 v4 x31 136 x12.fV _ h34 _ _ _ P0 F0 fp0 S_v3 C0) ?_;simp only [go_sem,seval];apply z;simp only [aR];obtain ⟨x35,h36,j11⟩:=aD j11;refine kM λ_ z=>?_;simp only [go_sem,seval,jZ u0,e23];refine SC.mono (iK n v3 x32 (aJ.mk x12.dL (i64.wrap x12.nY) (i64.wrap x25.nY)) x12.fV _ h36 _ _ _ P0 F0 fp0 S_v3 C0 (by simp only [go_sem,seval,bv3,e23])) ?_;rintro _ _ ⟨S_x35,h_x35,vr_x35,rfl,rfl,hk_x35⟩;simp only [go_sem,seval];apply z;simp only [aR,bJ];cases j11;refine ⟨zb,S_x35,?_⟩;simp only [go_sem,seval,hk_x35,e23]
    ·refine bL ?_
     try simp only [aR]
     obtain ⟨x37,h38,j11⟩:=aD j11;refine kM λ_ z=>?_;simp only [go_sem,seval,e23];refine SC.mono (iK n v3 v4 (aJ.mk x12.dL (i64.wrap x12.nY) 0) x12.fV _ h38 _ _ _ P0 F0 fp0 S_v3 C0 (by simp only [go_sem,bv3,e23])) ?_;rintro _ _ ⟨S_x37,h_x37,vr_x37,rfl,rfl,hk_x37⟩;simp only [go_sem,seval];apply z;simp only [aR,bJ];cases j11;refine ⟨zb,S_x37,?_⟩;simp only [go_sem,seval,hk_x37,e23]
  ·rintro E39 m40 ⟨S_y11_1,e41⟩ _;simp only [aR];have hk_y11_1:fA F0 fp0 S_y11_1 C0 m40.hp y11.1:=by simp only [e41]
   refine dY ?_;refine ⟨c6,EO _,(i64.wrap (v2+1)),y11.1,y11.2,S_y11_1,j5,?_⟩;simp only [go_sem,seval,hk_y11_1,e41]
 ·refine gE ?_
  try simp only [cV,cM,↓reduceIte,aR]
  cases j5;obtain ⟨x42,h50,h⟩:=aD h;obtain ⟨f47,f48,f49⟩:=aY h50;obtain ⟨g43,d43,z43,k43⟩:=fA.foc bv3 f49;obtain ⟨p43,s51,s52,s53,s54,s55,s56,s57⟩:=k43.rows;have s58:=(fA.funcsR bv3);have s44:=fA.fpEq bv3 f47;have s59:fA F0 (.pp (qI F0) (v3.f_.toNat*6)) S_v3 C0 m8.hp v3:=by rw [←s44];exact bv3
  have s60:=(iF.shC k43.vars);have k45:fA F0 fp0 S_v3 C0 (tH m8.hp (qI F0) (z43.set (v3.f_.toNat*6+3) (.li (x42.aO.length:Int)))) ({ v3 with p_:=⟨(v3.p_.aU.set v3.f_.toNat { x42 with aQ:=(x42.aO.length:Int) })⟩ }:aG):=IO.setParams k43 rfl rfl rfl rfl;have k46:fA F0 (.pp (qI F0) (v3.f_.toNat*6)) S_v3 C0 (tH m8.hp (qI F0) (z43.set (v3.f_.toNat*6+3) (.li (x42.aO.length:Int)))) ({ v3 with p_:=⟨(v3.p_.aU.set v3.f_.toNat { x42 with aQ:=(x42.aO.length:Int) })⟩ }:aG):=by rw [←s44];exact k45
  refine eV λ_ z=>?_;simp only [go_sem,seval,c10,s55,k43.hF,s44,s60.al,k43.len3,e9];apply z;simp only [];cases h;refine ⟨zc,?_⟩;simp only [go_sem,gR,s44];refine ⟨S_v3,_,_,Fr.to (q:=q) (p:=P0) ?_ u0 (by simp only [go_sem,s44,e9]),?_⟩
  ·simp only [go_sem,e9]
  ·simp only [go_sem,k46]
def Ef (f:aG->aH->Int->aB->Option (aG × aH)):Prop:=∀a0 a1 a2 a3 r,f a0 a1 a2 a3=some r->∀(q:Pa) (m:M) (vs:List V) (P0:Pa) (F0 fp0 S0 C0:V),vs.map V.weak1=[.ptr P0 0,.li a2,.agg ((aB.C a3))]/\m.blk P0=some (pZ F0 fp0 S0 C0 a0 a1)/\fA F0 fp0 S0 C0 m.hp a0->SC prog 27 vs q m (λv Y=>∃(fp S:V) (h:Hp) (vr:Nat->Nat),v=.tup []/\Y=m.ck P0 (pZ F0 fp S C0 r.1 r.2) h vr/\fA F0 fp S C0 h r.1)
theorem Do (n:Nat):Ef (lB n):=by
 rintro a0 a1 a2 a3 r h q m vs P0 F0 fp0 S0 C0 ⟨hv,w0,t0⟩;refine SC.wv hv ?_;refine SC.ap w0 λu0 l0=>?_
 try simp only [go_sem] at w0 l0
 refine oE func27 call27 ntmps27 results27 ?_;unfold lB at h;refine bC ?_;refine aN ?_;obtain ⟨x2,h3,h⟩:=aD h;refine bX λ_ z=>?_;simp only [go_sem,seval];refine SC.mono (vA n a0 a1 a2 _ h3 _ _ _ P0 F0 fp0 S0 C0 (by simp only [go_sem,seval,lR u0,t0,w0])) ?_;rintro _ _ ⟨fp_x2,S_x2,h_x2,vr_x2,rfl,rfl,hk_x2⟩;simp only [go_sem,seval];apply z;refine aN ?_;obtain ⟨⟨f5,f6⟩,h⟩:=bN h;obtain ⟨x4,h7,h⟩:=aD h;refine bX λ_ z=>?_;simp only [go_sem,seval,lR u0,f5,f6];refine SC.mono (BF n x2.1 x2.2 (a3.aM.take (max (i64.wrap ((a3.aM.length:Int) - 1)) 0).toNat) _ h7 _ _ _ P0 F0 fp_x2 S_x2 C0 (by simp only [go_sem,seval,hk_x2])) ?_;rintro _ _ ⟨S_x4,h_x4,vr_x4,rfl,rfl,hk_x4⟩;simp only [go_sem,seval];apply z;refine bC ?_;refine cY h (λc8 h=>?_) (λc8 h=>?_)
 ·obtain ⟨y9,j9,h⟩:=aD h;refine rE 41 (λX Y=>Y.blk P0=some (pZ F0 fp_x2 S_x4 C0 x4.1 y9)/\fA F0 fp_x2 S_x4 C0 Y.hp x4.1/\Y.gl=m.gl/\Fr q P0 m Y/\Y.hp=h_x4) ?_ ?_
  ·obtain ⟨x10,h16,j9⟩:=aD j9;obtain ⟨f13,f14,f15⟩:=aY h16;obtain ⟨g11,d11,z11,k11⟩:=fA.foc hk_x4 f15;obtain ⟨p11,s17,s18,s19,s20,s21,s22,s23⟩:=k11.rows;have s24:=(fA.funcsR hk_x4);have s12:=fA.fpEq hk_x4 f13;have s25:fA F0 (.pp (qI F0) (x4.1.f_.toNat*6)) S_x4 C0 h_x4 x4.1:=by rw [←s12];exact hk_x4
   rcases mL j9 with ⟨c26,j9⟩ | ⟨c26,j9⟩
   ·obtain ⟨x27,h28,j9⟩:=aD j9;refine eV λ_ z=>?_;simp only [go_sem,seval,lR u0,c8,s18,k11.hF,s12,c26];refine SC.bA (bM x4.1 x4.2 true 136 a3.fV _ h28 _ _ _ P0 F0 fp_x2 S_x4 C0) ?_;simp only [go_sem,seval,s12];apply z;simp only [aR];cases j9;exact jD
   ·have s31:=(iF.shC k11.vars);have f32:(6<=p11.length+1+1+1+1+1+1)=True:=eq_true za;obtain ⟨x29,h33,j9⟩:=aD j9;obtain ⟨x30,h34,j9⟩:=aD j9;refine eV λ_ z=>?_;simp only [go_sem,seval,lR u0,c8,s17,s18,s23,k11.hF,s12,c26,s31.al,f32];refine SC.by_ (Fz n x10 _ h33 _ _ _ g11 d11 (by simp only [go_sem,s23,s31.al,k11.vars])) ?_;simp only [go_sem,seval,lR u0];refine SC.bA (bM x4.1 x4.2 (decide (x29<=4)) 136 a3.fV _ h34 _ _ _ P0 F0 fp_x2 S_x4 C0) ?_;simp only [go_sem,seval,s12];apply z;simp only [aR];cases j9;exact jD
  ·intro E35 m36 e37 _;simp only [];cases h;refine ⟨zc,?_⟩;simp only [go_sem];refine ⟨fp_x2,S_x4,_,_,Fr.to (q:=q) (p:=P0) ?_ u0 (by simp only [go_sem,e37]),?_⟩
   ·simp only [go_sem,e37]
   ·simp only [go_sem,hk_x4,e37]
 ·refine bL ?_;cases h;refine ⟨zc,?_⟩;simp only [go_sem,c8];refine ⟨fp_x2,S_x4,_,_,Fr.to (q:=q) (p:=P0) ?_ u0 (by simp only [go_sem,seval]),?_⟩
  ·simp only [go_sem]
  ·simp only [go_sem,hk_x4]
def xA (f:aG->aH->Int->Option Int):Prop:=∀a0 a1 a2 r,f a0 a1 a2=some r->∀(q:Pa) (m:M) (vs:List V) (P0:Pa) (F0 fp0 S0 C0:V),vs.map V.weak1=[.ptr P0 0,.li a2]/\m.blk P0=some (pZ F0 fp0 S0 C0 a0 a1)/\fA F0 fp0 S0 C0 m.hp a0->SC prog 163 vs q m (λv Y=>v=.li r/\Y=m)
theorem jF:xA (fO):=by
 rintro a0 a1 a2 r h q m vs P0 F0 fp0 S0 C0 ⟨hv,w0,t0⟩;refine SC.wv hv ?_;refine SC.apart w0 λu0=>?_
 try simp only [go_sem] at w0
 refine oE func163 call163 ntmps163 results163 ?_;unfold fO at h;refine bC ?_;refine aN (bC ?_);refine cY h (λc1 h=>?_) (λc1 h=>?_)
 ·refine bC ?_;refine cB ?_
  try simp only [cE]
  cases h;exact jS
 ·refine bL ?_
  refine aN ?_;obtain ⟨x2,h9,h⟩:=aD h;obtain ⟨f6,f7,f8⟩:=aY h9;obtain ⟨g3,d3,z3,k3⟩:=fA.foc t0 f8;obtain ⟨p3,s10,s11,s12,s13,s14,s15,s16⟩:=k3.rows;have s17:=(fA.funcsR t0);have s4:=fA.fpEq t0 f6;have s18:fA F0 (.pp (qI F0) (a0.f_.toNat*6)) S0 C0 m.hp a0:=by rw [←s4];exact t0
  have s19:=(iF.shC k3.vars);obtain ⟨x5,h23,h⟩:=aD h;obtain ⟨f20,f21,f22⟩:=aY h23;obtain ⟨H28,rs_H28,s24,s25,s26,s27⟩:=iF.readVar k3.vars f22;refine bX λ_ z=>?_;simp only [go_sem,seval,c1,s14,k3.hF,s4,tV.ix (P:=prog) (k:=.i64) (iF.shC k3.vars) Jl f20 f21,s24,s26,w0];apply z;refine cB ?_;cases h;exact jS
instance:rX 163 (xA fO):=⟨jF⟩
def wZ (f:aG->aH->aB->Option (Int × aH)):Prop:=∀a0 a1 a2 r,f a0 a1 a2=some r->∀(q:Pa) (m:M) (vs:List V) (P0:Pa) (F0 fp0 S0 C0:V),vs.map V.weak1=[.ptr P0 0,.agg ((aB.C a2))]/\m.blk P0=some (pZ F0 fp0 S0 C0 a0 a1)/\fA F0 fp0 S0 C0 m.hp a0->SC prog 165 vs q m (λv Y=>v=.li r.1/\Y=(m.set P0 (pZ F0 fp0 S0 C0 a0 r.2)))
theorem pV (n:Nat):wZ (iB n):=λa0 a1 a2 r h q m vs P0 F0 fp0 S0 C0 ⟨hv,w0,t0⟩=>SC.wva hv (SC.ac w0 λ_ _ _=>fF func165 call165 ntmps165 results165 rfl (wk .z q m (iB.eq_1 _ _ _ _) h))
instance:rX 165 (∀n,wZ (iB n)):=⟨pV⟩
def Fy (f:Int->Int->Option Int):Prop:=∀a0 a1 r,f a0 a1=some r->Ey prog 190 [.li a0,.li a1] (.li r)
theorem IJ:Fy (tC):=λa0 a1 r h q m vs hv=>SC.wva hv (fF func190 call190 ntmps190 results190 rfl (wk (.j 2 1 13 [.v 5 Bool λy=>.lb y] [0,1] [] [] none .z (.c .z (.j 2 3 28 [.v 18 Bool λy=>.lb y] [] [] [] none .z .z))) q m (tC.eq_1 _ _) h))
instance:rX 190 (Fy tC):=⟨IJ⟩
def wC (f:aG->aH->aF->Int->Option (aF × aH)):Prop:=∀a0 a1 a2 a3 r,f a0 a1 a2 a3=some r->∀(q:Pa) (m:M) (vs:List V) (P0:Pa) (F0 fp0 S0 C0:V),vs.map V.weak1=[.ptr P0 0,.agg ((aF.C a2)),.li a3]/\m.blk P0=some (pZ F0 fp0 S0 C0 a0 a1)/\fA F0 fp0 S0 C0 m.hp a0->SC prog 191 vs q m (λv Y=>v=.agg ((aF.C r.1))/\Y=(m.set P0 (pZ F0 fp0 S0 C0 a0 r.2)))
theorem CG:wC (cR):=λa0 a1 a2 a3 r h q m vs P0 F0 fp0 S0 C0 ⟨hv,w0,t0⟩=>SC.wva hv (SC.ac w0 λ_ _ _=>fF func191 call191 ntmps191 results191 rfl (wk .z q m (cR.eq_1 _ _ _ _) h))
instance:rX 191 (wC cR):=⟨CG⟩
def wD (f:aG->aH->aF->aF->aF->Option (aF × aH)):Prop:=∀a0 a1 a2 a3 a4 r,f a0 a1 a2 a3 a4=some r->∀(q:Pa) (m:M) (vs:List V) (P0:Pa) (F0 fp0 S0 C0:V),vs.map V.weak1=[.ptr P0 0,.agg ((aF.C a2)),.agg ((aF.C a3)),.agg ((aF.C a4))]/\m.blk P0=some (pZ F0 fp0 S0 C0 a0 a1)/\fA F0 fp0 S0 C0 m.hp a0->SC prog 192 vs q m (λv Y=>v=.agg ((aF.C r.1))/\Y=(m.set P0 (pZ F0 fp0 S0 C0 a0 r.2)))
theorem CH:wD (iL):=λa0 a1 a2 a3 a4 r h q m vs P0 F0 fp0 S0 C0 ⟨hv,w0,t0⟩=>SC.wva hv (SC.ac w0 λ_ _ _=>fF func192 call192 ntmps192 results192 rfl (wk (.c (.j 2 3 26 [.b 0 aH λy=>pZ F0 fp0 S0 C0 a0 y] [0,5,6,8] [5,6,8] [] none .z .z) .z) q m (iL.eq_1 _ _ _ _ _) h))
instance:rX 192 (wD iL):=⟨CH⟩
def Fv (f:Int->Option Int):Prop:=∀a0 r,f a0=some r->Ey prog 161 [.li a0] (.li r)
theorem EF:Fv (tA):=λa0 r h q m vs hv=>SC.wva hv (fF func161 call161 ntmps161 results161 rfl (wk .z q m (tA.eq_1 _) h))
instance:rX 161 (Fv tA):=⟨EF⟩
def Fw (f:Int->Option Bool):Prop:=∀a0 r,f a0=some r->Ey prog 194 [.li a0] (.lb r)
theorem IG:Fw (qQ):=λa0 r h q m vs hv=>SC.wva hv (fF func194 call194 ntmps194 results194 rfl (wk (.j 2 1 8 [.v 2 Bool λy=>.lb y] [] [] [] none .z .z) q m (qQ.eq_1 _) h))
instance:rX 194 (Fw qQ):=⟨IG⟩
def vB (f:aG->aH->aF->Option Int):Prop:=∀a0 a1 a2 r,f a0 a1 a2=some r->∀(q:Pa) (m:M) (vs:List V) (P0:Pa) (F0 fp0 S0 C0:V),vs.map V.weak1=[.ptr P0 0,.agg ((aF.C a2))]/\m.blk P0=some (pZ F0 fp0 S0 C0 a0 a1)/\fA F0 fp0 S0 C0 m.hp a0->SC prog 193 vs q m (λv Y=>v=.li r/\Y=m)
theorem BM:vB (lJ):=λa0 a1 a2 r h q m vs P0 F0 fp0 S0 C0 ⟨hv,w0,t0⟩=>SC.wva hv (SC.ac w0 λ_ _ _=>fF func193 call193 ntmps193 results193 rfl (wk (.j 2 2 25 [.v 27 Bool λy=>.lb y] [0,5] [0] [] none .z .z) q m (lJ.eq_1 _ _ _) h))
instance:rX 193 (vB lJ):=⟨BM⟩
def jU (f:aG->aH->aB->Option (aF × aH)):Prop:=∀a0 a1 a2 r,f a0 a1 a2=some r->∀(q:Pa) (m:M) (vs:List V) (P0:Pa) (F0 fp0 S0 C0:V),vs.map V.weak1=[.ptr P0 0,.agg ((aB.C a2))]/\m.blk P0=some (pZ F0 fp0 S0 C0 a0 a1)/\fA F0 fp0 S0 C0 m.hp a0/\m.gl 0=.eptr [(cA bK.C dD)] 0 0->SC prog 159 vs q m (λv Y=>v=.agg ((aF.C r.1))/\Y=(m.set P0 (pZ F0 fp0 S0 C0 a0 r.2)))
def qM (f:aG->aH->aB->aF->Option (aF × aH)):Prop:=∀a0 a1 a2 a3 r,f a0 a1 a2 a3=some r->∀(q:Pa) (m:M) (vs:List V) (P0:Pa) (F0 fp0 S0 C0:V),vs.map V.weak1=[.ptr P0 0,.agg ((aB.C a2)),.agg ((aF.C a3))]/\m.blk P0=some (pZ F0 fp0 S0 C0 a0 a1)/\fA F0 fp0 S0 C0 m.hp a0/\m.gl 0=.eptr [(cA bK.C dD)] 0 0->SC prog 178 vs q m (λv Y=>v=.agg ((aF.C r.1))/\Y=(m.set P0 (pZ F0 fp0 S0 C0 a0 r.2)))
def pU (f:aG->aH->aB->aF->Option (aF × aH)):Prop:=∀a0 a1 a2 a3 r,f a0 a1 a2 a3=some r->∀(q:Pa) (m:M) (vs:List V) (P0:Pa) (F0 fp0 S0 C0:V),vs.map V.weak1=[.ptr P0 0,.agg ((aB.C a2)),.agg ((aF.C a3))]/\m.blk P0=some (pZ F0 fp0 S0 C0 a0 a1)/\fA F0 fp0 S0 C0 m.hp a0/\m.gl 0=.eptr [(cA bK.C dD)] 0 0->SC prog 179 vs q m (λv Y=>v=.agg ((aF.C r.1))/\Y=(m.set P0 (pZ F0 fp0 S0 C0 a0 r.2)))
def pC (f:aG->aH->aB->aF->Option (aF × aH)):Prop:=∀a0 a1 a2 a3 r,f a0 a1 a2 a3=some r->∀(q:Pa) (m:M) (vs:List V) (P0:Pa) (F0 fp0 S0 C0:V),vs.map V.weak1=[.ptr P0 0,.agg ((aB.C a2)),.agg ((aF.C a3))]/\m.blk P0=some (pZ F0 fp0 S0 C0 a0 a1)/\fA F0 fp0 S0 C0 m.hp a0/\m.gl 0=.eptr [(cA bK.C dD)] 0 0->SC prog 180 vs q m (λv Y=>v=.agg ((aF.C r.1))/\Y=(m.set P0 (pZ F0 fp0 S0 C0 a0 r.2)))
def oL (f:aG->aH->aB->aF->Option (aF × aH)):Prop:=∀a0 a1 a2 a3 r,f a0 a1 a2 a3=some r->∀(q:Pa) (m:M) (vs:List V) (P0:Pa) (F0 fp0 S0 C0:V),vs.map V.weak1=[.ptr P0 0,.agg ((aB.C a2)),.agg ((aF.C a3))]/\m.blk P0=some (pZ F0 fp0 S0 C0 a0 a1)/\fA F0 fp0 S0 C0 m.hp a0/\m.gl 0=.eptr [(cA bK.C dD)] 0 0->SC prog 181 vs q m (λv Y=>v=.agg ((aF.C r.1))/\Y=(m.set P0 (pZ F0 fp0 S0 C0 a0 r.2)))
def jA (f:aG->aH->(List aB)->Option ((List aF) × aH)):Prop:=∀a0 a1 a2 r,f a0 a1 a2=some r->∀(q:Pa) (m:M) (vs:List V) (P0:Pa) (F0 fp0 S0 C0:V),vs.map V.weak1=[.ptr P0 0,.list .none (a2.map aB.C)]/\m.blk P0=some (pZ F0 fp0 S0 C0 a0 a1)/\fA F0 fp0 S0 C0 m.hp a0/\m.gl 0=.eptr [(cA bK.C dD)] 0 0->SC prog 189 vs q m (λv Y=>v=.list .none (r.1.map aF.C)/\Y=(m.set P0 (pZ F0 fp0 S0 C0 a0 r.2)))
theorem BJ {mF} (BR:qM mF) {lQ} (Bo:pU lQ) {kW} (AA:pC kW) {kI} (Aa:oL kI) (n:Nat):jU (nV mF lQ kW kI n):=haveI:rX 178 (qM mF):=⟨BR⟩;haveI:rX 179 (pU lQ):=⟨Bo⟩;haveI:rX 180 (pC kW):=⟨AA⟩;haveI:rX 181 (oL kI):=⟨Aa⟩;λa0 a1 a2 r h q m vs P0 F0 fp0 S0 C0 ⟨hv,w0,t0,_⟩=>SC.wva hv (SC.ac w0 λ_ _ _=>fF func159 call159 ntmps159 results159 rfl (wk .z q m (nV.eq_1 _ _ _ _ _ _ _ _) h))
theorem BI {dP} (rO:jU dP) (n:Nat):qM (nU dP n):=by
 rintro a0 a1 a2 a3 r h q m vs P0 F0 fp0 S0 C0 ⟨hv,w0,t0,hg0⟩;refine SC.wv hv ?_;refine SC.ap w0 λu0 l0=>?_
 try simp only [go_sem] at w0 l0
 refine oE func178 call178 ntmps178 results178 ?_;unfold nU at h;refine bC ?_;refine aN ?_;obtain ⟨x4,h10,h⟩:=aD h;obtain ⟨f7,f8,f9⟩:=aY h10;have f11:a2.aM[0]? = some x4:=f9;obtain ⟨x5,h12,h⟩:=aD h;refine bX λ_ z=>?_;simp only [go_sem,seval,f7,f8,f11];refine SC.bA (rO a0 a1 x4 _ h12 _ _ _ P0 F0 fp0 S0 C0) ?_;simp only [go_sem,seval];apply z;refine aN ?_;obtain ⟨x13,h14,h⟩:=aD h;refine bX λ_ z=>?_;simp only [go_sem,seval,lR u0];refine SC.bA (pV n a0 x5.2 a2 _ h14 _ _ _ P0 F0 fp0 S0 C0) ?_;simp only [go_sem,seval,lR u0];apply z;refine aN ?_;obtain ⟨x15,h17,h⟩:=aD h;obtain ⟨x16,h18,h⟩:=aD h;refine eV λ_ z=>?_;simp only [go_sem,seval,lR u0];refine SC.bA (jF a0 x13.2 x13.1 _ h17 _ _ _ P0 F0 fp0 S0 C0) ?_;simp only [go_sem,seval,lR u0];refine SC.bA (bM a0 x13.2 (x15 == 4) 132 a2.fV _ h18 _ _ _ P0 F0 fp0 S0 C0) ?_;simp only [go_sem,seval];apply z;refine aN ?_;obtain ⟨x19,h20,h⟩:=aD h;refine bX λ_ z=>?_;simp only [go_sem,seval,lR u0];refine SC.bA (bM a0 x16 (x5.1.cP == 1) 133 x5.1.fV _ h20 _ _ _ P0 F0 fp0 S0 C0) ?_;simp only [go_sem,seval];apply z;refine aN (aN ?_);obtain ⟨y21,j21,h⟩:=aD h;refine rE 46 (λX Y=>X 0=.ptr P0 0/\X 5=.ptr (1::q) 0/\X 6=.ptr (2::q) 0/\X 7=.ptr (9::q) 0/\X 45=.lb y21/\Y.blk P0=some (pZ F0 fp0 S0 C0 a0 x19)/\Y.blk (1::q)=some ((aF.C ({ a3 with eG:=([105,110,100,101,120]:cQ),cP:=2,cZ:=x13.1 }:aF)))/\Y.blk (2::q)=some ([.ls [],.li 0,.lw 0,.li 0,.list .self ([].map aF.C),.li 0])/\Y.blk (9::q)=some ((aF.C x5.1))/\Y.gl=m.gl/\Y.hp=m.hp/\m.back q Y=(m.set P0 (pZ F0 fp0 S0 C0 a0 x19))) ?_ ?_
 ·rcases mL j21 with ⟨c22,j21⟩ | ⟨c22,j21⟩
  ·refine dY ?_;cases j21;exact jD
  ·refine bX λ_ z=>?_;simp only [go_sem,seval,c22];apply z;cases j21;exact jD
 ·intro E23 m24 e25 _;refine cY h (λc26 h=>?_) (λc26 h=>?_)
  ·obtain ⟨x27,h35,h⟩:=aD h;obtain ⟨f32,f33,f34⟩:=aY h35;obtain ⟨g28,d28,z28,k28⟩:=fA.foc t0 f34;obtain ⟨p28,s36,s37,s38,s39,s40,s41,s42⟩:=k28.rows;have s43:=(fA.funcsR t0);have s29:=fA.fpEq t0 f32;have s44:fA F0 (.pp (qI F0) (a0.f_.toNat*6)) S0 C0 m.hp a0:=by rw [←s29];exact t0
   have s45:=(iF.shC k28.vars);obtain ⟨x30,h49,h⟩:=aD h;obtain ⟨f46,f47,f48⟩:=aY h49;obtain ⟨H54,rs_H54,s50,s51,s52,s53⟩:=iF.readVar k28.vars f48;obtain ⟨x31,h55,h⟩:=aD h;refine eV λ_ z=>?_;simp only [go_sem,seval,s40,k28.hF,s29,tV.ix (P:=prog) (k:=.i64) (iF.shC k28.vars) Jl f46 f47,s50,s53,e25];refine SC.bA (bM a0 x19 (decide ((i64.wrap x5.1.N_)<x30.gA)) 137 x5.1.fV _ h55 _ _ _ P0 F0 fp0 S0 C0) ?_;simp only [go_sem,seval,s29];apply z;refine bC ?_;refine bC ?_;refine cB ?_;cases h;exact jS
  ·refine bL ?_
   refine bC ?_;refine bC ?_;refine cB ?_;cases h;exact jS
theorem AZ {dB} (mM:jA dB) (n:Nat):pU (mV dB n):=haveI:rX 189 (jA dB):=⟨mM⟩;λa0 a1 a2 a3 r h q m vs P0 F0 fp0 S0 C0 ⟨hv,w0,t0,_⟩=>SC.wva hv (SC.ac w0 λ_ _ _=>fF func179 call179 ntmps179 results179 rfl (wk .z q m (mV.eq_1 _ _ _ _ _ _) h))
theorem Ar {dB} (mM:jA dB) (n:Nat):pC (mJ dB n):=haveI:rX 189 (jA dB):=⟨mM⟩;λa0 a1 a2 a3 r h q m vs P0 F0 fp0 S0 C0 ⟨hv,w0,t0,_⟩=>SC.wva hv (SC.ac w0 λ_ _ _=>fF func180 call180 ntmps180 results180 rfl (wk .z q m (mJ.eq_1 _ _ _ _ _ _) h))
theorem zZ {dB} (mM:jA dB) (n:Nat):oL (lS dB n):=haveI:rX 189 (jA dB):=⟨mM⟩;λa0 a1 a2 a3 r h q m vs P0 F0 fp0 S0 C0 ⟨hv,w0,t0,_⟩=>SC.wva hv (SC.ac w0 λ_ _ _=>fF func181 call181 ntmps181 results181 rfl (wk (.c .z (.c .z (.c .z (.c (.j 2 15 65 [.b 0 aH λy=>pZ F0 fp0 S0 C0 a0 y] [0,5,6] [5,6] [] none .z .z) .z)))) q m (lS.eq_1 _ _ _ _ _ _) h))
theorem CW {dP} (rO:jU dP) (n:Nat):jA (oT dP n):=haveI:rX 159 (jU dP):=⟨rO⟩;λa0 a1 a2 r h q m vs P0 F0 fp0 S0 C0 ⟨hv,w0,t0,_⟩=>SC.wva hv (SC.ac w0 λ_ _ _=>fF func189 call189 ntmps189 results189 rfl (wk (.s 5 (.l [.o 5 (List aF) λy=>(y.map aF.C),.v 10 Int λy=>.li y,.b 0 aH λy=>pZ F0 fp0 S0 C0 a0 y] [0,8,9] [] [] none .z .z)) q m (oT.eq_1 _ _ _ _ _) h))
theorem uA:∀n,jU (iC n)/\qM (Fj n)/\pU (EJ n)/\pC (Ei n)/\oL (Ds n)/\jA (Gm n)
 | 0=>⟨λ_ _ _ _ h=>eO h,λ_ _ _ _ _ h=>eO h,λ_ _ _ _ _ h=>eO h,λ_ _ _ _ _ h=>eO h,λ_ _ _ _ _ h=>eO h,λ_ _ _ _ h=>eO h⟩
 | n+1=>
   have ih:=uA n
   ⟨BJ ih.2.1 ih.2.2.1 ih.2.2.2.1 ih.2.2.2.2.1 n,BI ih.1 n,AZ ih.2.2.2.2.2 n,Ar ih.2.2.2.2.2 n,zZ ih.2.2.2.2.2 n,CW ih.1 n⟩
theorem mX (n:Nat):jU (iC n):=(uA n).1
instance:rX 159 (∀n,jU (iC n)):=⟨mX⟩
def uZ (f:aG->aH->aB->Option (aF × aH)):Prop:=∀a0 a1 a2 r,f a0 a1 a2=some r->∀(q:Pa) (m:M) (vs:List V) (P0:Pa) (F0 fp0 S0 C0:V),vs.map V.weak1=[.ptr P0 0,.agg ((aB.C a2))]/\m.blk P0=some (pZ F0 fp0 S0 C0 a0 a1)/\fA F0 fp0 S0 C0 m.hp a0/\m.gl 0=.eptr [(cA bK.C dD)] 0 0->SC prog 129 vs q m (λv Y=>v=.agg ((aF.C r.1))/\Y=(m.set P0 (pZ F0 fp0 S0 C0 a0 r.2)))
theorem jO (n:Nat):uZ (fI n):=λa0 a1 a2 r h q m vs P0 F0 fp0 S0 C0 ⟨hv,w0,t0,_⟩=>SC.wva hv (SC.ac w0 λ_ _ _=>fF func129 call129 ntmps129 results129 rfl (wk .z q m (fI.eq_1 _ _ _ _) h))
instance:rX 129 (∀n,uZ (fI n)):=⟨jO⟩
def Bb (f:aG->aH->aB->Option (Int × aH)):Prop:=∀a0 a1 a2 r,f a0 a1 a2=some r->∀(q:Pa) (m:M) (vs:List V) (P0:Pa) (F0 fp0 S0 C0:V),vs.map V.weak1=[.ptr P0 0,.agg ((aB.C a2))]/\m.blk P0=some (pZ F0 fp0 S0 C0 a0 a1)/\fA F0 fp0 S0 C0 m.hp a0->SC prog 167 vs q m (λv Y=>v=.li r.1/\Y=(m.set P0 (pZ F0 fp0 S0 C0 a0 r.2)))
theorem Aq (n:Nat):Bb (mI n):=by
 rintro a0 a1 a2 r h q m vs P0 F0 fp0 S0 C0 ⟨hv,w0,t0⟩;refine SC.wv hv ?_;refine SC.ap w0 λu0 l0=>?_
 try simp only [go_sem] at w0 l0
 refine oE func167 call167 ntmps167 results167 ?_;unfold mI at h;refine bC ?_;refine aN ?_;have s3:=(fA.funcsR t0);obtain ⟨x2,h4,h⟩:=aD h;refine eV λ_ z=>?_;simp only [go_sem,seval,lR u0,s3.al,w0];refine SC.by_ (xM n a0.p_ a2.dL _ h4 _ _ _ F0 fp0 S0 C0 a0 (by simp only [go_sem,t0,s3.al])) ?_;simp only [go_sem,seval];apply z;refine aN ?_;obtain ⟨x5,h6,h⟩:=aD h;refine bX λ_ z=>?_;simp only [go_sem,seval];refine SC.bA (bM a0 a1 x2.2 130 a2.fV _ h6 _ _ _ P0 F0 fp0 S0 C0) ?_;simp only [go_sem,seval];apply z;refine bC ?_;refine cB ?_;cases h;exact jS
def CJ (f:aG->aH->Int->Option (List aJ)):Prop:=∀a0 a1 a2 r,f a0 a1 a2=some r->∀(q:Pa) (m:M) (vs:List V) (P0:Pa) (F0 fp0 S0 C0:V),vs.map V.weak1=[.ptr P0 0,.li a2]/\m.blk P0=some (pZ F0 fp0 S0 C0 a0 a1)/\fA F0 fp0 S0 C0 m.hp a0->SC prog 168 vs q m (λv Y=>∃lv,v=lv/\iF m.hp lv 3 (r.map aJ.C)/\Y=m)
theorem BE:CJ (nS):=by
 rintro a0 a1 a2 r h q m vs P0 F0 fp0 S0 C0 ⟨hv,w0,t0⟩;refine SC.wv hv ?_;refine SC.apart w0 λu0=>?_
 try simp only [go_sem] at w0
 refine oE func168 call168 ntmps168 results168 ?_;unfold nS at h;refine bC ?_;refine aN ?_;have s5:=(fA.funcsR t0);obtain ⟨x1,h9,h⟩:=aD h;obtain ⟨f6,f7,f8⟩:=aY h9;obtain ⟨g2,d2,z2,k2⟩:=fA.foc t0 f8;obtain ⟨p2,s10,s11,s12,s13,s14,s15,s16⟩:=k2.rows;have s17:=(iF.shC k2.vars);obtain ⟨⟨f3',f4'⟩,h⟩:=bN h;have f3:0<=x1.aQ:=f3';have f4:x1.aQ<=(x1.aO.length:Int):=f4';have s18:tV (zP g2 (x1.aQ.toNat)) 3 (x1.aO.take (x1.aQ.toNat)).length:=tV.cutL (iF.shC k2.vars) f4;refine eV λ_ z=>?_;simp only [go_sem,seval,s5.al,tV.ix (P:=prog) (k:=.i64) (fA.funcsR t0) MY f6 f7,s13,s14,k2.hF,tV.slHi (P:=prog) (k:=.i64) (iF.shC k2.vars) Jl f3 f4,w0];apply z;refine cB ?_;cases h;refine ⟨zc,?_⟩;simp only [go_sem,seval,bG];refine ⟨(zP g2 (x1.aQ.toNat)),tV.wk (tV.cutL (iF.shC k2.vars) f4),?_⟩;have hR:=(iF.cutC k2.vars f4);simpa only [go_sem,seval] using hR
def Hw (f:Int->Int->Option Bool):Prop:=∀a0 a1 r,f a0 a1=some r->Ey prog 164 [.li a0,.li a1] (.lb r)
theorem yY:Hw (tD):=λa0 a1 r h q m vs hv=>SC.wva hv (fF func164 call164 ntmps164 results164 rfl (wk (.j 2 1 13 [.v 4 Bool λy=>.lb y] [] [] [] none .z .z) q m (tD.eq_1 _ _) h))
instance:rX 164 (Hw tD):=⟨yY⟩
def wF (f:aG->aH->aB->Int->Option (aF × aH)):Prop:=∀a0 a1 a2 a3 r,f a0 a1 a2 a3=some r->∀(q:Pa) (m:M) (vs:List V) (P0:Pa) (F0 fp0 S0 C0:V),vs.map V.weak1=[.ptr P0 0,.agg ((aB.C a2)),.li a3]/\m.blk P0=some (pZ F0 fp0 S0 C0 a0 a1)/\fA F0 fp0 S0 C0 m.hp a0->SC prog 182 vs q m (λv Y=>v=.agg ((aF.C r.1))/\Y=(m.set P0 (pZ F0 fp0 S0 C0 a0 r.2)))
theorem CV (n:Nat):wF (mE n):=by
 rintro a0 a1 a2 a3 r h q m vs P0 F0 fp0 S0 C0 ⟨hv,w0,t0⟩;refine SC.wv hv ?_;refine SC.ap w0 λu0 l0=>?_
 try simp only [go_sem] at w0 l0
 refine oE func182 call182 ntmps182 results182 ?_;unfold mE at h;refine bC ?_;refine aN ?_;obtain ⟨x3,h4,h⟩:=aD h;refine bX λ_ z=>?_;simp only [go_sem,seval];refine SC.bA (bM a0 a1 (a2.bF == 15) 132 a2.fV _ h4 _ _ _ P0 F0 fp0 S0 C0) ?_;simp only [go_sem,seval];apply z;refine aN ?_;obtain ⟨x5,h6,h⟩:=aD h;refine bX λ_ z=>?_;simp only [go_sem,seval,lR u0];refine SC.bA (pV n a0 x3 a2 _ h6 _ _ _ P0 F0 fp0 S0 C0) ?_;simp only [go_sem,seval];apply z;refine aN ?_;obtain ⟨y7,j7,h⟩:=aD h;refine rE 37 (λX Y=>X 4=.ptr (0::q) 0/\X 6=.ptr (1::q) 0/\X 7=.li x5.1/\Y.blk P0=some (pZ F0 fp0 S0 C0 a0 y7)/\Y.blk (0::q)=some ((aB.C a2))/\Y.blk (1::q)=some ([.ls [],.li 0,.lw 0,.li 0,.list .self ([].map aF.C),.li 0])/\Y.gl=m.gl/\Y.hp=m.hp/\m.back q Y=(m.set P0 (pZ F0 fp0 S0 C0 a0 y7))) ?_ ?_
 ·obtain ⟨x8,h9,j7⟩:=aD j7
  rcases mL j7 with ⟨c10,j7⟩ | ⟨c10,j7⟩
  ·obtain ⟨x11,h19,j7⟩:=aD j7;obtain ⟨f16,f17,f18⟩:=aY h19;obtain ⟨g12,d12,z12,k12⟩:=fA.foc t0 f18;obtain ⟨p12,s20,s21,s22,s23,s24,s25,s26⟩:=k12.rows;have s27:=(fA.funcsR t0);have s13:=fA.fpEq t0 f16;have s28:fA F0 (.pp (qI F0) (a0.f_.toNat*6)) S0 C0 m.hp a0:=by rw [←s13];exact t0
   have s29:=(iF.shC k12.vars);obtain ⟨x14,h33,j7⟩:=aD j7;obtain ⟨f30,f31,f32⟩:=aY h33;obtain ⟨H38,rs_H38,s34,s35,s36,s37⟩:=iF.readVar k12.vars f32;obtain ⟨x15,h39,j7⟩:=aD j7;refine eV λ_ z=>?_;simp only [go_sem,seval,lR u0,s13];refine SC.bA (jF a0 x5.2 x5.1 _ h9 _ _ _ P0 F0 fp0 S0 C0) ?_;simp only [go_sem,seval,lR u0,c10,s24,k12.hF,tV.ix (P:=prog) (k:=.i64) (iF.shC k12.vars) Jl f30 f31,s34,s37];refine SC.bA (bM a0 x5.2 (x14.gA == a3) 132 a2.fV _ h39 _ _ _ P0 F0 fp0 S0 C0) ?_;simp only [go_sem,seval,s13];apply z;simp only [aR];cases j7;exact jD
  ·obtain ⟨x40,h41,j7⟩:=aD j7;refine eV λ_ z=>?_;simp only [go_sem,seval,lR u0];refine SC.bA (jF a0 x5.2 x5.1 _ h9 _ _ _ P0 F0 fp0 S0 C0) ?_;simp only [go_sem,seval,lR u0,c10];refine SC.bA (bM a0 x5.2 false 132 a2.fV _ h41 _ _ _ P0 F0 fp0 S0 C0) ?_;simp only [go_sem,seval];apply z;simp only [aR];cases j7;exact jD
 ·intro E42 m43 e44 _;refine bC ?_;refine cB ?_;cases h;exact jS
instance:rX 182 (∀n,wF (mE n)):=⟨CV⟩
def Bd (f:aG->aH->aB->aJ->Option (aF × aH)):Prop:=∀a0 a1 a2 a3 r,f a0 a1 a2 a3=some r->∀(q:Pa) (m:M) (vs:List V) (P0:Pa) (F0 fp0 S0 C0:V),vs.map V.weak1=[.ptr P0 0,.agg ((aB.C a2)),.agg ((aJ.C a3))]/\m.blk P0=some (pZ F0 fp0 S0 C0 a0 a1)/\fA F0 fp0 S0 C0 m.hp a0/\m.gl 0=.eptr [(cA bK.C dD)] 0 0->SC prog 169 vs q m (λv Y=>v=.agg ((aF.C r.1))/\Y=(m.set P0 (pZ F0 fp0 S0 C0 a0 r.2)))
theorem As (n:Nat):Bd (mK n):=λa0 a1 a2 a3 r h q m vs P0 F0 fp0 S0 C0 ⟨hv,w0,t0,_⟩=>SC.wva hv (SC.ac w0 λ_ _ _=>fF func169 call169 ntmps169 results169 rfl (wk .z q m (mK.eq_1 _ _ _ _ _) h))
def Eg (f:aG->aH->aB->aA->Int->Option (aA × aG × aH)):Prop:=∀a0 a1 a2 a3 a4 r,f a0 a1 a2 a3 a4=some r->∀(q:Pa) (m:M) (vs:List V) (P0:Pa) (F0 fp0 S0 C0:V),vs.map V.weak1=[.ptr P0 0,.agg ((aB.C a2)),.agg ([.ls a3.eG,.li a3.cZ,.li a3.gI,.nilv,.list .none (a3.bR.map aA.C),.list .none (a3.iP.map aA.C),.li a3.fV]),.li a4]/\m.blk P0=some (pZ F0 fp0 S0 C0 a0 a1)/\fA F0 fp0 S0 C0 m.hp a0/\m.gl 0=.eptr [(cA bK.C dD)] 0 0->SC prog 133 vs q m (λv Y=>∃(h:Hp) (vr:Nat->Nat),v=.agg ((aA.C r.1))/\Y=m.ck P0 (pZ F0 fp0 S0 C0 r.2.1 r.2.2) h vr/\fA F0 fp0 S0 C0 h r.2.1)
theorem pW (n:Nat):Eg (jM n):=by
 rintro a0 a1 a2 a3 a4 r h q m vs P0 F0 fp0 S0 C0 ⟨hv,w0,t0,hg0⟩;refine SC.wv hv ?_;refine SC.ap w0 λu0 l0=>?_
 try simp only [go_sem] at w0 l0
 refine oE func133 call133 ntmps133 results133 ?_;unfold jM at h;refine bC ?_;refine aN ?_;obtain ⟨x4,h5,h⟩:=aD h;refine bX λ_ z=>?_;simp only [go_sem,seval];refine SC.bA (Aq n a0 a1 a2 _ h5 _ _ _ P0 F0 fp0 S0 C0) ?_;simp only [go_sem,seval,jZ u0];apply z;refine aN (bC ?_);refine cY h (λc6 h=>?_) (λc6 h=>?_)
 ·refine bC ?_;refine cB ?_
  try simp only [cE]
  cases h;refine ⟨zc,?_⟩;simp only [go_sem,seval];refine ⟨_,_,Fr.to (q:=q) (p:=P0) ?_ u0 (by simp only [go_sem,seval,jZ u0]),?_⟩
  ·simp only [go_sem]
  ·simp only [go_sem,t0]
 ·refine bL ?_
  refine aN ?_;have s11:=(fA.callsS t0);obtain ⟨x7,h15,h⟩:=aD h;obtain ⟨f12,f13,f14⟩:=aY h15;obtain ⟨cv_k8,HC_k8,k8⟩:=fA.focC t0 f14;obtain ⟨p8,s16⟩:=k8.row;have s17:=(iF.shC k8.cell);obtain ⟨f18,h⟩:=bN h;refine wL λf19=>?_;have f9:m.hp (39::q)=none:=by have:=f19 39 za;simpa only [go_sem,seval,t0,c6] using this
  have k10:fA F0 fp0 S0 C0 (tH (GO m.hp cv_k8 (39::q) ((x7.map (cI .i64)).flatten++[.li x4.1])) (qI C0) (HC_k8.set a0.fU.toNat (.vec (39::q) 1 (x7.length+1)))) ({ a0 with cJ:=(a0.cJ.set a0.fU.toNat (x7++[x4.1])) }:aG):=ME.app k8 f9 x4.1 rfl rfl rfl rfl;refine eV λ_ z=>?_;simp only [go_sem,seval,jZ u0,c6,s11.al,tV.ix (P:=prog) (k:=.i64) (fA.callsS t0) sz34 f12 f13,s16,k8.hC];refine DE (sz:=1) (rows:=(x7.map (cI .i64))) (by (try simp only [go_sem]);have hR:=k8.cell;exact hR) Ty zc3 by3 zb zb rfl (by simp only [go_sem]) (by simp only [go_sem,seval]) (by first | omega | (simp only [wM,jJ,mO];omega)) ?_;simp only [go_sem,seval,HJ,List.flatten_nil,gR,jZ u0,s11.al,tV.ix (P:=prog) (k:=.i64) (fA.callsS t0) sz34 f12 f13,ME.apF k8 f9,k8.len];apply z;refine aN ?_;obtain ⟨x20,h21,h⟩:=aD h;refine bX λ_ z=>?_;simp only [go_sem,seval];refine SC.mono (BE ({ a0 with cJ:=(a0.cJ.set a0.fU.toNat (x7++[x4.1])) }:aG) x4.2 x4.1 _ h21 _ _ _ P0 F0 fp0 S0 C0 (by simp only [go_sem,seval,jZ u0,k10])) ?_;rintro v_x20 _ ⟨lv_x20,hl_x20,rl_x20,rfl⟩;rw [hl_x20]
  try simp only [go_sem] at rl_x20
  have rs_x20:=iF.shC rl_x20;simp only [go_sem,seval];apply z;refine aN ?_;obtain ⟨x22,h23,h⟩:=aD h;refine bX λ_ z=>?_;simp only [go_sem,seval,jZ u0,rs_x20.al];refine SC.bA (bM ({ a0 with cJ:=(a0.cJ.set a0.fU.toNat (x7++[x4.1])) }:aG) x4.2 ((a2.aM.length:Int) == (x20.length:Int)) 136 a2.fV _ h23 _ _ _ P0 F0 fp0 S0 C0) ?_;simp only [go_sem,seval];apply z;refine aN (bC ?_);refine cK ?_;obtain ⟨y28,j28,h⟩:=aD h;refine rG (λc X Y=>∃v25 v26 v27,kS n a2 x20 a0 x7 x4 c v25 v26 v27=some y28/\X 0=.ptr P0 0/\X 6=.ptr (1::q) 0/\X 8=.ptr (2::q) 0/\X 9=lv_x20/\X 63=.list .none (a2.aM.map aB.C)/\X 64=.li (a2.aM.length:Int)/\X 65=.li v25/\Y.blk P0=some (pZ F0 fp0 S0 C0 ({ a0 with cJ:=(a0.cJ.set a0.fU.toNat (x7++[x4.1])) }:aG) v26)/\fA F0 fp0 S0 C0 Y.hp ({ a0 with cJ:=(a0.cJ.set a0.fU.toNat (x7++[x4.1])) }:aG)/\Y.blk (1::q)=some ([.ls v27.eG,.li v27.cZ,.li v27.gI,.list .self (v27.aM.map aF.C),.list .none (v27.bR.map aA.C),.list .none (v27.iP.map aA.C),.li v27.fV])/\Y.blk (2::q)=some ([.ls [],.li 0,.li 0,.list .self ([].map aF.C),.list .self ([].map aA.C),.list .self ([].map aA.C),.li 0])/\Y.gl=m.gl/\Fr q P0 m Y/\Y.hp=(tH (GO m.hp cv_k8 (39::q) ((x7.map (cI .i64)).flatten++[.li x4.1])) (qI C0) (HC_k8.set a0.fU.toNat (.vec (39::q) 1 (x7.length+1))))) n ⟨0,x22,({ a3 with eG:=([99,97,108,108]:cQ),cZ:=a4,gI:=x4.1,aM:=[] }:aA),j28,?_⟩ ?_
  ·simp only [go_sem,seval,jZ u0,k10]
  rintro i24 c29 E30 m31 ⟨v25,v26,v27,j28,e32⟩ _
  rcases c29 with _ | c29
  ·cases j28
  rw [kS] at j28;refine bC ?_;refine aN (cY j28 (λc33 j28=>?_) (λc33 j28=>?_))
  ·refine bL ?_
   refine aN (cK (aN ?_));obtain ⟨x34,h39,j28⟩:=aD j28;obtain ⟨f36,f37,f38⟩:=aY h39;refine dY ?_;refine aN (bC ?_);refine cY j28 (λc40 j28=>?_) (λc40 j28=>?_)
   ·refine gE ?_
    try simp only [seval,cV,cM,aR]
    cases j28;refine bC ?_;refine cB ?_;cases h;refine ⟨zc,?_⟩;simp only [go_sem,seval,e32];refine ⟨_,_,Fr.to (q:=q) (p:=P0) ?_ u0 (by simp only [go_sem,seval,jZ u0,e32]),?_⟩
    ·simp only [go_sem,e32]
    ·simp only [go_sem,k10,e32]
   ·refine bL ?_
    try simp only [aR]
    obtain ⟨x41,h46,j28⟩:=aD j28;obtain ⟨f43,f44,f45⟩:=aY h46;obtain ⟨H51,rs_H51,s47,s48,s49,s50⟩:=iF.readVar rl_x20 f45;obtain ⟨x42,h52,j28⟩:=aD j28;obtain ⟨f53,j28⟩:=bN j28;have f54:v27.aM.length+1<=1073741824:=by first | omega | (simp only [nB,jJ,mO] at f53 ⊢;omega)
    have f55:v27.aM.length<=1073741823:=by first | omega | (simp only [nB,jJ,mO] at f53 ⊢;omega)
    refine eV λ_ z=>?_;simp only [go_sem,seval,c40,tV.ix (P:=prog) (k:=.i64) (iF.shC rl_x20) Jl f43 f44,s47,s48,e32];refine SC.bA (As n ({ a0 with cJ:=(a0.cJ.set a0.fU.toNat (x7++[x4.1])) }:aG) v26 x34 x41 _ h52 _ _ _ P0 F0 fp0 S0 C0) ?_;simp only [go_sem,seval,jZ u0,f54,e32];apply z;simp only [aR,bJ];refine dY ?_;refine ⟨c29,EO _,(i64.wrap (v25+1)),x42.2,({ v27 with aM:=(v27.aM++[x42.1]) }:aA),j28,?_⟩;simp only [go_sem,seval,gY u0,jZ u0,k10,e32]
  ·refine gE ?_
   try simp only [cV,cM,↓reduceIte,aR]
   cases j28;refine bC ?_;refine cB ?_;cases h;refine ⟨zc,?_⟩;simp only [go_sem,seval,e32];refine ⟨_,_,Fr.to (q:=q) (p:=P0) ?_ u0 (by simp only [go_sem,seval,jZ u0,e32]),?_⟩
   ·simp only [go_sem,e32]
   ·simp only [go_sem,k10,e32]
def CT (f:aG->aH->aB->Option Bool):Prop:=∀a0 a1 a2 r,f a0 a1 a2=some r->∀(q:Pa) (m:M) (vs:List V) (P0:Pa) (F0 fp0 S0 C0:V),vs.map V.weak1=[.ptr P0 0,.agg ((aB.C a2))]/\m.blk P0=some (pZ F0 fp0 S0 C0 a0 a1)/\fA F0 fp0 S0 C0 m.hp a0/\m.gl 0=.eptr [(cA bK.C dD)] 0 0->SC prog 160 vs q m (λv Y=>v=.lb r/\Y=m)
theorem rK (n:Nat):CT (jV n):=λa0 a1 a2 r h q m vs P0 F0 fp0 S0 C0 ⟨hv,w0,t0,_⟩=>SC.wva hv (SC.ac w0 λ_ _ _=>fF func160 call160 ntmps160 results160 rfl (wk (.j 2 1 12 [.v 4 Bool λy=>.lb y] [0] [0] [] none .z .z) q m (jV.eq_1 _ _ _ _) h))
def Dp (f:aG->aH->aB->aA->Option (aA × aG × aH)):Prop:=∀a0 a1 a2 a3 r,f a0 a1 a2 a3=some r->∀(q:Pa) (m:M) (vs:List V) (P0:Pa) (F0 fp0 S0 C0:V),vs.map V.weak1=[.ptr P0 0,.agg ((aB.C a2)),.agg ([.ls a3.eG,.li a3.cZ,.li a3.gI,.nilv,.list .none (a3.bR.map aA.C),.list .none (a3.iP.map aA.C),.li a3.fV])]/\m.blk P0=some (pZ F0 fp0 S0 C0 a0 a1)/\fA F0 fp0 S0 C0 m.hp a0/\m.gl 0=.eptr [(cA bK.C dD)] 0 0->SC prog 130 vs q m (λv Y=>∃(S:V) (h:Hp) (vr:Nat->Nat),v=.agg ((aA.C r.1))/\Y=m.ck P0 (pZ F0 fp0 S C0 r.2.1 r.2.2) h vr/\fA F0 fp0 S C0 h r.2.1)
theorem CS (n:Nat):Dp (oS n):=by
 rintro a0 a1 a2 a3 r h q m vs P0 F0 fp0 S0 C0 ⟨hv,w0,t0,hg0⟩;refine SC.wv hv ?_;refine SC.ap w0 λu0 l0=>?_
 try simp only [go_sem] at w0 l0
 refine oE func130 call130 ntmps130 results130 ?_;unfold oS at h;refine bC ?_;refine vN (id:=(1::q)) (off:=3) (cs:=[.ls a3.eG,.li a3.cZ,.li a3.gI,.list .self ([].map aF.C),.list .none (a3.bR.map aA.C),.list .none (a3.iP.map aA.C),.li a3.fV]) (by simp only [go_sem,seval]) rfl ?_;refine aN (aN ?_);obtain ⟨x4,h9,h⟩:=aD h;obtain ⟨f6,f7,f8⟩:=aY h9;have f10:a2.aM[0]? = some x4:=f8;obtain ⟨x5,h11,h⟩:=aD h;refine bX λ_ z=>?_;simp only [go_sem,seval,f6,f7,f10];refine SC.bA (rK n a0 a1 x4 _ h11 _ _ _ P0 F0 fp0 S0 C0) ?_;simp only [go_sem,seval];apply z;refine cY h (λc12 h=>?_) (λc12 h=>?_)
 ·refine aN ?_;obtain ⟨x13,h14,h⟩:=aD h;refine eV λ_ z=>?_;simp only [go_sem,seval,f6,f7,f10,c12];refine SC.mono (pW n a0 a1 x4 ({ a3 with aM:=[] }:aA) (-1:Int) _ h14 _ _ _ P0 F0 fp0 S0 C0 (by simp only [go_sem,seval,lR u0,t0,w0,hg0])) ?_;rintro _ _ ⟨h_x13,vr_x13,rfl,rfl,hk_x13⟩;simp only [go_sem,seval,lR u0];apply z;refine bC ?_;refine aN (bC ?_);refine cY h (λc15 h=>?_) (λc15 h=>?_)
  ·refine bC ?_;refine cB ?_
   try simp only [cE]
   cases h;refine ⟨zc,?_⟩;simp only [go_sem,seval,lR u0];refine ⟨S0,_,_,Fr.to (q:=q) (p:=P0) ?_ u0 (by simp only [go_sem,seval,lR u0]),?_⟩
   ·simp only [go_sem]
   ·simp only [go_sem,hk_x13]
  ·refine bL ?_
   refine aN ?_;have s18:=(fA.funcsR hk_x13);obtain ⟨x16,h22,h⟩:=aD h;obtain ⟨f19,f20,f21⟩:=aY h22;obtain ⟨g17,d17,z17,k17⟩:=fA.foc hk_x13 f21;obtain ⟨p17,s23,s24,s25,s26,s27,s28,s29⟩:=k17.rows;refine eV λ_ z=>?_;simp only [go_sem,seval,lR u0,c15,s18.al,tV.ix (P:=prog) (k:=.i64) (fA.funcsR hk_x13) MY f19 f20,s25,k17.hF];apply z;refine aN ?_;obtain ⟨x30,h31,h⟩:=aD h;refine bX λ_ z=>?_;simp only [go_sem,seval,lR u0];refine SC.bA (bM x13.2.1 x13.2.2 (x16.bV != 0) 132 a2.fV _ h31 _ _ _ P0 F0 fp0 S0 C0) ?_;simp only [go_sem,seval];apply z;refine aN ?_;obtain ⟨x32,h33,h⟩:=aD h;refine bX λ_ z=>?_;simp only [go_sem,seval,lR u0];refine SC.mono (iK n x13.2.1 x30 (aJ.mk a2.dL x16.bV 0) a2.fV _ h33 _ _ _ P0 F0 fp0 S0 C0 (by simp only [go_sem,seval,hk_x13])) ?_;rintro _ _ ⟨S_x32,h_x32,vr_x32,rfl,rfl,hk_x32⟩;simp only [go_sem,seval,lR u0];apply z;refine bC ?_;refine cB ?_
   try simp only [cE]
   cases h;refine ⟨zc,?_⟩;simp only [go_sem,seval,lR u0];refine ⟨S_x32,_,_,Fr.to (q:=q) (p:=P0) ?_ u0 (by simp only [go_sem,seval,lR u0]),?_⟩
   ·simp only [go_sem]
   ·simp only [go_sem,hk_x32]
 ·refine bL ?_
  refine aN ?_;obtain ⟨x34,h36,h⟩:=aD h;refine bX λ_ z=>?_;simp only [go_sem,seval,f6,f7,f10,c12];refine SC.bA (mX n a0 a1 x4 _ h36 _ _ _ P0 F0 fp0 S0 C0) ?_;simp only [go_sem,seval];apply z;refine aN (eV λ_ z=>?_);simp only [go_sem,seval,lR u0];apply z;refine aN ?_;obtain ⟨x37,h39,h⟩:=aD h;obtain ⟨x38,h40,h⟩:=aD h;refine eV λ_ z=>?_;simp only [go_sem,seval,lR u0];refine SC.bA (EF x34.1.cP _ h39 _ _ _) ?_;simp only [go_sem,seval,lR u0];refine SC.mono (iK n a0 x34.2 (aJ.mk a2.dL x37 0) a2.fV _ h40 _ _ _ P0 F0 fp0 S0 C0 (by simp only [go_sem,seval,lR u0,t0])) ?_;rintro _ _ ⟨S_x38,h_x38,vr_x38,rfl,rfl,hk_x38⟩;simp only [go_sem,seval,lR u0];apply z;refine bC ?_;refine cB ?_;cases h;refine ⟨zc,?_⟩;simp only [go_sem,seval,lR u0];refine ⟨S_x38,_,_,Fr.to (q:=q) (p:=P0) ?_ u0 (by simp only [go_sem,seval,lR u0]),?_⟩
  ·simp only [go_sem]
  ·simp only [go_sem,hk_x38]
def BG (f:aG->aH->aB->Option (Int × aH)):Prop:=∀a0 a1 a2 r,f a0 a1 a2=some r->∀(q:Pa) (m:M) (vs:List V) (P0:Pa) (F0 fp0 S0 C0:V),vs.map V.weak1=[.ptr P0 0,.agg ((aB.C a2))]/\m.blk P0=some (pZ F0 fp0 S0 C0 a0 a1)/\fA F0 fp0 S0 C0 m.hp a0->SC prog 162 vs q m (λv Y=>v=.li r.1/\Y=(m.set P0 (pZ F0 fp0 S0 C0 a0 r.2)))
theorem Ba (n:Nat):BG (mW n):=λa0 a1 a2 r h q m vs P0 F0 fp0 S0 C0 ⟨hv,w0,t0⟩=>SC.wva hv (SC.ac w0 λ_ _ _=>fF func162 call162 ntmps162 results162 rfl (wk (.j 2 3 20 [.b 0 aH λy=>pZ F0 fp0 S0 C0 a0 y] [0,5] [] [] none .z .z) q m (mW.eq_1 _ _ _ _) h))
def EK (f:aG->aH->aB->aA->Option (aA × aG × aH)):Prop:=∀a0 a1 a2 a3 r,f a0 a1 a2 a3=some r->∀(q:Pa) (m:M) (vs:List V) (P0:Pa) (F0 fp0 S0 C0:V),vs.map V.weak1=[.ptr P0 0,.agg ((aB.C a2)),.agg ([.ls a3.eG,.li a3.cZ,.li a3.gI,.nilv,.list .none (a3.bR.map aA.C),.list .none (a3.iP.map aA.C),.li a3.fV])]/\m.blk P0=some (pZ F0 fp0 S0 C0 a0 a1)/\fA F0 fp0 S0 C0 m.hp a0/\m.gl 0=.eptr [(cA bK.C dD)] 0 0->SC prog 131 vs q m (λv Y=>∃(h:Hp) (vr:Nat->Nat),v=.agg ((aA.C r.1))/\Y=m.ck P0 (pZ F0 fp0 S0 C0 r.2.1 r.2.2) h vr/\fA F0 fp0 S0 C0 h r.2.1)
theorem Ed (n:Nat):EK (qD n):=by
 rintro a0 a1 a2 a3 r h q m vs P0 F0 fp0 S0 C0 ⟨hv,w0,t0,hg0⟩;refine SC.wv hv ?_;refine SC.ap w0 λu0 l0=>?_
 try simp only [go_sem] at w0 l0
 refine oE func131 call131 ntmps131 results131 ?_;unfold qD at h;refine bC ?_;refine vN (id:=(1::q)) (off:=3) (cs:=[.ls a3.eG,.li a3.cZ,.li a3.gI,.list .self ([].map aF.C),.list .none (a3.bR.map aA.C),.list .none (a3.iP.map aA.C),.li a3.fV]) (by simp only [go_sem,seval]) rfl ?_;refine aN ?_;obtain ⟨x4,h5,h⟩:=aD h;refine bX λ_ z=>?_;simp only [go_sem,seval];refine SC.bA (Ba n a0 a1 a2 _ h5 _ _ _ P0 F0 fp0 S0 C0) ?_;simp only [go_sem,seval];apply z;refine aN (aN ?_);obtain ⟨x6,h11,h⟩:=aD h;obtain ⟨f8,f9,f10⟩:=aY h11;have f12:a2.aM[0]? = some x6:=f10;obtain ⟨x7,h13,h⟩:=aD h;refine bX λ_ z=>?_;simp only [go_sem,seval,lR u0,f8,f9,f12];refine SC.bA (rK n a0 x4.2 x6 _ h13 _ _ _ P0 F0 fp0 S0 C0) ?_;simp only [go_sem,seval];apply z;refine cY h (λc14 h=>?_) (λc14 h=>?_)
 ·refine aN ?_;obtain ⟨x15,h16,h⟩:=aD h;refine eV λ_ z=>?_;simp only [go_sem,seval,lR u0,f8,f9,f12,c14];refine SC.mono (pW n a0 x4.2 x6 ({ a3 with aM:=[] }:aA) x4.1 _ h16 _ _ _ P0 F0 fp0 S0 C0 (by simp only [go_sem,seval,t0,hg0])) ?_;rintro _ _ ⟨h_x15,vr_x15,rfl,rfl,hk_x15⟩;simp only [go_sem,seval,lR u0];apply z;refine bC ?_;refine aN (bC ?_);refine cY h (λc17 h=>?_) (λc17 h=>?_)
  ·obtain ⟨x18,h22,h⟩:=aD h;have s23:=(fA.funcsR hk_x15);obtain ⟨x19,h27,h⟩:=aD h;obtain ⟨f24,f25,f26⟩:=aY h27;obtain ⟨g20,d20,z20,k20⟩:=fA.foc hk_x15 f26;obtain ⟨p20,s28,s29,s30,s31,s32,s33,s34⟩:=k20.rows;obtain ⟨x21,h35,h⟩:=aD h;refine eV λ_ z=>?_;simp only [go_sem,seval,lR u0,c17,s23.al,tV.ix (P:=prog) (k:=.i64) (fA.funcsR hk_x15) MY f24 f25,s30,k20.hF];refine SC.bA (jF x15.2.1 x15.2.2 x4.1 _ h22 _ _ _ P0 F0 fp0 S0 C0) ?_;simp only [go_sem,seval,lR u0,s23.al,s30,k20.hF];refine SC.bA (bM x15.2.1 x15.2.2 (x19.bV == x18) 132 a2.fV _ h35 _ _ _ P0 F0 fp0 S0 C0) ?_;simp only [go_sem,seval];apply z;refine bC ?_;refine cB ?_
   try simp only [cE]
   cases h;refine ⟨zc,?_⟩;simp only [go_sem,seval,lR u0];refine ⟨_,_,Fr.to (q:=q) (p:=P0) ?_ u0 (by simp only [go_sem,seval,lR u0]),?_⟩
   ·simp only [go_sem]
   ·simp only [go_sem,hk_x15]
  ·refine bL ?_
   refine bC ?_;refine cB ?_
   try simp only [cE]
   cases h;refine ⟨zc,?_⟩;simp only [go_sem,seval,lR u0];refine ⟨_,_,Fr.to (q:=q) (p:=P0) ?_ u0 (by simp only [go_sem,seval,lR u0]),?_⟩
   ·simp only [go_sem]
   ·simp only [go_sem,hk_x15]
 ·refine bL ?_
  refine aN ?_;obtain ⟨x36,h38,h⟩:=aD h;refine bX λ_ z=>?_;simp only [go_sem,seval,lR u0,f8,f9,f12,c14];refine SC.bA (mX n a0 x4.2 x6 _ h38 _ _ _ P0 F0 fp0 S0 C0) ?_;simp only [go_sem,seval];apply z;refine aN (eV λ_ z=>?_);simp only [go_sem,seval,lR u0];apply z;refine aN ?_;obtain ⟨x39,h42,h⟩:=aD h;obtain ⟨x40,h43,h⟩:=aD h;obtain ⟨x41,h44,h⟩:=aD h;refine eV λ_ z=>?_;simp only [go_sem,seval,lR u0];refine SC.bA (jF a0 x36.2 x4.1 _ h42 _ _ _ P0 F0 fp0 S0 C0) ?_;simp only [go_sem,seval,lR u0];refine SC.bA (yY x36.1.cP x39 _ h43 _ _ _) ?_;simp only [go_sem,seval,lR u0];refine SC.bA (bM a0 x36.2 x40 132 a2.fV _ h44 _ _ _ P0 F0 fp0 S0 C0) ?_;simp only [go_sem,seval];apply z;refine bC ?_;refine cB ?_;cases h;refine ⟨zc,?_⟩;simp only [go_sem,seval];refine ⟨_,_,Fr.to (q:=q) (p:=P0) ?_ u0 (by simp only [go_sem,seval,lR u0]),?_⟩
  ·simp only [go_sem]
  ·simp only [go_sem,t0]
def Dn (f:aG->aH->aB->Int->Option (aF × aH)):Prop:=∀a0 a1 a2 a3 r,f a0 a1 a2 a3=some r->∀(q:Pa) (m:M) (vs:List V) (P0:Pa) (F0 fp0 S0 C0:V),vs.map V.weak1=[.ptr P0 0,.agg ((aB.C a2)),.li a3]/\m.blk P0=some (pZ F0 fp0 S0 C0 a0 a1)/\fA F0 fp0 S0 C0 m.hp a0/\m.gl 0=.eptr [(cA bK.C dD)] 0 0->SC prog 166 vs q m (λv Y=>v=.agg ((aF.C r.1))/\Y=(m.set P0 (pZ F0 fp0 S0 C0 a0 r.2)))
theorem CQ (n:Nat):Dn (oR n):=by
 rintro a0 a1 a2 a3 r h q m vs P0 F0 fp0 S0 C0 ⟨hv,w0,t0,hg0⟩;refine SC.wv hv ?_;refine SC.ap w0 λu0 l0=>?_
 try simp only [go_sem] at w0 l0
 refine oE func166 call166 ntmps166 results166 ?_;unfold oR at h;refine bC ?_;refine aN ?_;obtain ⟨x3,h5,h⟩:=aD h;refine bX λ_ z=>?_;simp only [go_sem,seval];refine SC.bA (jO n a0 a1 a2 _ h5 _ _ _ P0 F0 fp0 S0 C0) ?_;simp only [go_sem,seval];apply z;refine aN (aN ?_);obtain ⟨y6,j6,h⟩:=aD h;refine rE 17 (λX Y=>X 0=.ptr P0 0/\X 2=.li a3/\X 4=.ptr (0::q) 0/\X 6=.ptr (1::q) 0/\X 7=.ptr (5::q) 0/\X 20=.lb y6/\Y.blk P0=some (pZ F0 fp0 S0 C0 a0 x3.2)/\Y.blk (0::q)=some ((aB.C a2))/\Y.blk (1::q)=some ([.ls [],.li 0,.lw 0,.li 0,.list .self ([].map aF.C),.li 0])/\Y.blk (5::q)=some ((aF.C x3.1))/\Y.gl=m.gl/\Y.hp=m.hp/\m.back q Y=(m.set P0 (pZ F0 fp0 S0 C0 a0 x3.2))) ?_ ?_
 ·rcases mL j6 with ⟨c7,j6⟩ | ⟨c7,j6⟩
  ·refine bX λ_ z=>?_;simp only [go_sem,seval,lR u0,c7];apply z;cases j6;exact jD
  ·refine bX λ_ z=>?_;simp only [go_sem,seval,lR u0,c7];apply z;cases j6;exact jD
 ·intro E8 m9 e10 _;refine cY h (λc11 h=>?_) (λc11 h=>?_)
  ·obtain ⟨x12,h20,h⟩:=aD h;obtain ⟨f17,f18,f19⟩:=aY h20;obtain ⟨g13,d13,z13,k13⟩:=fA.foc t0 f19;obtain ⟨p13,s21,s22,s23,s24,s25,s26,s27⟩:=k13.rows;have s28:=(fA.funcsR t0);have s14:=fA.fpEq t0 f17;have s29:fA F0 (.pp (qI F0) (a0.f_.toNat*6)) S0 C0 m.hp a0:=by rw [←s14];exact t0
   have s30:=(iF.shC k13.vars);obtain ⟨x15,h34,h⟩:=aD h;obtain ⟨f31,f32,f33⟩:=aY h34;obtain ⟨H39,rs_H39,s35,s36,s37,s38⟩:=iF.readVar k13.vars f33;obtain ⟨x16,h40,h⟩:=aD h;refine eV λ_ z=>?_;simp only [go_sem,seval,s25,k13.hF,s14,tV.ix (P:=prog) (k:=.i64) (iF.shC k13.vars) Jl f31 f32,s35,s38,e10];refine SC.bA (bM a0 x3.2 (decide ((i64.wrap x3.1.N_)<x15.gA)) 137 a2.fV _ h40 _ _ _ P0 F0 fp0 S0 C0) ?_;simp only [go_sem,seval,s14];apply z;refine bC ?_;refine cB ?_;cases h;exact jS
  ·refine bL ?_
   refine bC ?_;refine cB ?_;cases h;exact jS
def EL (f:aG->aH->aB->aA->Option (aA × aH)):Prop:=∀a0 a1 a2 a3 r,f a0 a1 a2 a3=some r->∀(q:Pa) (m:M) (vs:List V) (P0:Pa) (F0 fp0 S0 C0:V),vs.map V.weak1=[.ptr P0 0,.agg ((aB.C a2)),.agg ([.ls a3.eG,.li a3.cZ,.li a3.gI,.nilv,.list .none (a3.bR.map aA.C),.list .none (a3.iP.map aA.C),.li a3.fV])]/\m.blk P0=some (pZ F0 fp0 S0 C0 a0 a1)/\fA F0 fp0 S0 C0 m.hp a0/\m.gl 0=.eptr [(cA bK.C dD)] 0 0->SC prog 132 vs q m (λv Y=>v=.agg ((aA.C r.1))/\Y=(m.set P0 (pZ F0 fp0 S0 C0 a0 r.2)))
theorem Ee (n:Nat):EL (qE n):=by
 rintro a0 a1 a2 a3 r h q m vs P0 F0 fp0 S0 C0 ⟨hv,w0,t0,hg0⟩;refine SC.wv hv ?_;refine SC.ap w0 λu0 l0=>?_
 try simp only [go_sem] at w0 l0
 refine oE func132 call132 ntmps132 results132 ?_;unfold qE at h;refine bC ?_;refine vN (id:=(1::q)) (off:=3) (cs:=[.ls a3.eG,.li a3.cZ,.li a3.gI,.list .self ([].map aF.C),.list .none (a3.bR.map aA.C),.list .none (a3.iP.map aA.C),.li a3.fV]) (by simp only [go_sem,seval]) rfl ?_;refine aN ?_;obtain ⟨x4,h5,h⟩:=aD h;refine bX λ_ z=>?_;simp only [go_sem,seval];refine SC.bA (pV n a0 a1 a2 _ h5 _ _ _ P0 F0 fp0 S0 C0) ?_;simp only [go_sem,seval];apply z;refine aN ?_;obtain ⟨x6,h8,h⟩:=aD h;obtain ⟨x7,h9,h⟩:=aD h;refine eV λ_ z=>?_;simp only [go_sem,seval,lR u0];refine SC.bA (jF a0 x4.2 x4.1 _ h8 _ _ _ P0 F0 fp0 S0 C0) ?_;simp only [go_sem,seval,lR u0];refine SC.bA (bM a0 x4.2 (x6 == 4) 132 a2.fV _ h9 _ _ _ P0 F0 fp0 S0 C0) ?_;simp only [go_sem,seval];apply z;refine aN ?_;obtain ⟨x10,h16,h⟩:=aD h;obtain ⟨f13,f14,f15⟩:=aY h16;have f17:a2.aM[0]? = some x10:=f15;obtain ⟨x11,h18,h⟩:=aD h;refine bX λ_ z=>?_;simp only [go_sem,seval,lR u0,f13,f14,f17];refine SC.bA (CQ n a0 x7 x10 x4.1 _ h18 _ _ _ P0 F0 fp0 S0 C0) ?_;simp only [go_sem,seval];apply z;refine aN ?_;obtain ⟨x19,h25,h⟩:=aD h;obtain ⟨f22,f23,f24⟩:=aY h25;have f26:a2.aM[1]? = some x19:=f24;obtain ⟨x20,h27,h⟩:=aD h;refine bX λ_ z=>?_;simp only [go_sem,seval,lR u0,f22,f23,f26];refine SC.bA (mX n a0 x11.2 x19 _ h27 _ _ _ P0 F0 fp0 S0 C0) ?_;simp only [go_sem,seval];apply z;refine aN (eV λ_ z=>?_);simp only [go_sem,seval,lR u0];apply z;refine aN ?_;obtain ⟨x28,h30,h⟩:=aD h;obtain ⟨x29,h31,h⟩:=aD h;refine eV λ_ z=>?_;simp only [go_sem,seval,lR u0];refine SC.bA (yY x20.1.cP 2 _ h30 _ _ _) ?_;simp only [go_sem,seval,lR u0];refine SC.bA (bM a0 x20.2 x28 132 a2.fV _ h31 _ _ _ P0 F0 fp0 S0 C0) ?_;simp only [go_sem,seval];apply z;refine bC ?_;refine cB ?_;cases h;exact jS
def Ej (f:aG->aH->aB->aA->Bool->Option (aA × aG × aH)):Prop:=∀a0 a1 a2 a3 a4 r,f a0 a1 a2 a3 a4=some r->∀(q:Pa) (m:M) (vs:List V) (P0:Pa) (F0 fp0 S0 C0:V),vs.map V.weak1=[.ptr P0 0,.agg ((aB.C a2)),.agg ([.ls a3.eG,.li a3.cZ,.li a3.gI,.nilv,.list .none (a3.bR.map aA.C),.list .none (a3.iP.map aA.C),.li a3.fV]),.lb a4]/\m.blk P0=some (pZ F0 fp0 S0 C0 a0 a1)/\fA F0 fp0 S0 C0 m.hp a0/\m.gl 0=.eptr [(cA bK.C dD)] 0 0->SC prog 135 vs q m (λv Y=>∃(h:Hp) (vr:Nat->Nat),v=.agg ((aA.C r.1))/\Y=m.ck P0 (pZ F0 fp0 S0 C0 r.2.1 r.2.2) h vr/\fA F0 fp0 S0 C0 h r.2.1)
theorem Du (n:Nat):Ej (pH n):=by
 rintro a0 a1 a2 a3 a4 r h q m vs P0 F0 fp0 S0 C0 ⟨hv,w0,t0,hg0⟩;refine SC.wv hv ?_;refine SC.ap w0 λu0 l0=>?_
 try simp only [go_sem] at w0 l0
 refine oE func135 call135 ntmps135 results135 ?_;unfold pH at h;refine bC ?_;refine vN (id:=(1::q)) (off:=3) (cs:=[.ls a3.eG,.li a3.cZ,.li a3.gI,.list .self ([].map aF.C),.list .none (a3.bR.map aA.C),.list .none (a3.iP.map aA.C),.li a3.fV]) (by simp only [go_sem,seval]) rfl ?_;refine aN ?_;obtain ⟨y4,j4,h⟩:=aD h;refine rE 18 (λX Y=>X 0=.ptr P0 0/\X 5=.ptr (0::q) 0/\X 6=.ptr (1::q) 0/\X 8=.ptr (2::q) 0/\Y.blk P0=some (pZ F0 fp0 S0 C0 a0 y4)/\fA F0 fp0 S0 C0 Y.hp a0/\Y.blk (0::q)=some ((aB.C a2))/\Y.blk (1::q)=some ([.ls a3.eG,.li a3.cZ,.li a3.gI,.nilv,.list .none (a3.bR.map aA.C),.list .none (a3.iP.map aA.C),.li a3.fV])/\Y.blk (2::q)=some ([.ls [],.li 0,.li 0,.list .self ([].map aF.C),.list .self ([].map aA.C),.list .self ([].map aA.C),.li 0])/\Y.gl=m.gl/\Fr q P0 m Y/\Y.hp=m.hp) ?_ ?_
 ·rcases mL j4 with ⟨c5,j4⟩ | ⟨c5,j4⟩
  ·obtain ⟨x6,h13,j4⟩:=aD j4;obtain ⟨f10,f11,f12⟩:=aY h13;obtain ⟨g7,d7,z7,k7⟩:=fA.foc t0 f12;obtain ⟨p7,s14,s15,s16,s17,s18,s19,s20⟩:=k7.rows;have s21:=(fA.funcsR t0);have s8:=fA.fpEq t0 f10;have s22:fA F0 (.pp (qI F0) (a0.f_.toNat*6)) S0 C0 m.hp a0:=by rw [←s8];exact t0
   obtain ⟨x9,h23,j4⟩:=aD j4;refine eV λ_ z=>?_;simp only [go_sem,seval,lR u0,c5,s16,k7.hF,s8,w0];refine SC.bA (bM a0 a1 (x6.bV != 0) 135 a2.fV _ h23 _ _ _ P0 F0 fp0 S0 C0) ?_;simp only [go_sem,seval,s8];apply z;simp only [aR];cases j4;exact jD
  ·obtain ⟨x24,h25,j4⟩:=aD j4;refine eV λ_ z=>?_;simp only [go_sem,seval,c5];refine SC.bA (bM a0 a1 false 135 a2.fV _ h25 _ _ _ P0 F0 fp0 S0 C0) ?_;simp only [go_sem,seval];apply z;simp only [aR];cases j4;exact jD
 ·intro E26 m27 e28 _;refine aN (aN ?_);obtain ⟨y29,j29,h⟩:=aD h;refine rE 31 (λX Y=>X 0=.ptr P0 0/\X 5=.ptr (0::q) 0/\X 6=.ptr (1::q) 0/\X 8=.ptr (2::q) 0/\X 37=.lb y29/\Y.blk P0=some (pZ F0 fp0 S0 C0 a0 y4)/\fA F0 fp0 S0 C0 Y.hp a0/\Y.blk (0::q)=some ((aB.C a2))/\Y.blk (1::q)=some ([.ls a3.eG,.li a3.cZ,.li a3.gI,.nilv,.list .none (a3.bR.map aA.C),.list .none (a3.iP.map aA.C),.li a3.fV])/\Y.blk (2::q)=some ([.ls [],.li 0,.li 0,.list .self ([].map aF.C),.list .self ([].map aA.C),.list .self ([].map aA.C),.li 0])/\Y.gl=m.gl/\Fr q P0 m Y/\Y.hp=m.hp) ?_ ?_
  ·rcases mL j29 with ⟨c30,j29⟩ | ⟨c30,j29⟩
   ·obtain ⟨x31,h36,j29⟩:=aD j29;obtain ⟨f33,f34,f35⟩:=aY h36;have f37:a2.aM[0]? = some x31:=f35;obtain ⟨x32,h38,j29⟩:=aD j29;refine bX λ_ z=>?_;simp only [go_sem,seval,c30,f33,f34,f37,e28];refine SC.bA (rK n a0 y4 x31 _ h38 _ _ _ P0 F0 fp0 S0 C0) ?_;simp only [go_sem,seval];apply z;cases j29;exact jD
   ·refine bX λ_ z=>?_;simp only [go_sem,seval,c30,e28];apply z;cases j29;exact jD
  ·intro E39 m40 e41 _;refine cY h (λc42 h=>?_) (λc42 h=>?_)
   ·refine aN ?_;obtain ⟨x43,h48,h⟩:=aD h;obtain ⟨f45,f46,f47⟩:=aY h48;have f49:a2.aM[0]? = some x43:=f47;obtain ⟨x44,h50,h⟩:=aD h;refine eV λ_ z=>?_;simp only [go_sem,seval,f45,f46,f49,e41];refine SC.mono (pW n a0 y4 x43 ({ a3 with aM:=[] }:aA) (-2:Int) _ h50 _ _ _ P0 F0 fp0 S0 C0 (by simp only [go_sem,t0,e41,hg0])) ?_;rintro _ _ ⟨h_x44,vr_x44,rfl,rfl,hk_x44⟩;simp only [go_sem,seval,lR u0,e41];apply z;refine bC ?_;refine aN (bC ?_);refine cY h (λc51 h=>?_) (λc51 h=>?_)
    ·have s58:=(fA.funcsR hk_x44);obtain ⟨x52,h62,h⟩:=aD h;obtain ⟨f59,f60,f61⟩:=aY h62;obtain ⟨g53,d53,z53,k53⟩:=fA.foc hk_x44 f61;obtain ⟨p53,s63,s64,s65,s66,s67,s68,s69⟩:=k53.rows;obtain ⟨x54,h73,h⟩:=aD h;obtain ⟨f70,f71,f72⟩:=aY h73;obtain ⟨g55,d55,z55,k55⟩:=fA.foc hk_x44 f72;have hHF:=k53.hF.symm.trans k55.hF
     injection hHF with hHF
     subst hHF;obtain ⟨p55,s74,s75,s76,s77,s78,s79,s80⟩:=k55.rows;have s56:=fA.fpEq hk_x44 f70;have s81:fA F0 (.pp (qI F0) (x44.2.1.f_.toNat*6)) S0 C0 h_x44 x44.2.1:=by rw [←s56];exact hk_x44
     obtain ⟨x57,h82,h⟩:=aD h;refine eV λ_ z=>?_;simp only [go_sem,seval,lR u0,c51,s58.al,tV.ix (P:=prog) (k:=.i64) (fA.funcsR hk_x44) MY f59 f60,s65,k53.hF,s76,s56,e41];refine SC.bA (bM x44.2.1 x44.2.2 (x52.bV == x54.bV) 132 a2.fV _ h82 _ _ _ P0 F0 fp0 S0 C0) ?_;simp only [go_sem,seval,s56];apply z;refine bC ?_;refine cB ?_
     try simp only [cE]
     cases h;refine ⟨zc,?_⟩;simp only [go_sem,seval,lR u0,s56,e41];refine ⟨_,_,Fr.to (q:=q) (p:=P0) ?_ u0 (by simp only [go_sem,seval,lR u0]),?_⟩
     ·simp only [go_sem,e41]
     ·simp only [go_sem,s81]
    ·refine bL ?_
     refine bC ?_;refine cB ?_
     try simp only [cE]
     cases h;refine ⟨zc,?_⟩;simp only [go_sem,seval,lR u0,e41];refine ⟨_,_,Fr.to (q:=q) (p:=P0) ?_ u0 (by simp only [go_sem,seval,lR u0]),?_⟩
     ·simp only [go_sem,e41]
     ·simp only [go_sem,hk_x44]
   ·refine bL ?_
    refine aN ?_;obtain ⟨x83,h89,h⟩:=aD h;obtain ⟨f86,f87,f88⟩:=aY h89;have f90:a2.aM[0]? = some x83:=f88;obtain ⟨x84,h91,h⟩:=aD h;refine bX λ_ z=>?_;simp only [go_sem,seval,f86,f87,f90,e41];refine SC.bA (mX n a0 y4 x83 _ h91 _ _ _ P0 F0 fp0 S0 C0) ?_;simp only [go_sem,seval];apply z;refine aN (eV λ_ z=>?_);simp only [go_sem,seval,lR u0,e41];apply z;refine aN ?_;obtain ⟨x92,h100,h⟩:=aD h;obtain ⟨f97,f98,f99⟩:=aY h100;obtain ⟨g93,d93,z93,k93⟩:=fA.foc t0 f99;obtain ⟨p93,s101,s102,s103,s104,s105,s106,s107⟩:=k93.rows;have s108:=(fA.funcsR t0);have s94:=fA.fpEq t0 f97;have s109:fA F0 (.pp (qI F0) (a0.f_.toNat*6)) S0 C0 m.hp a0:=by rw [←s94];exact t0
    obtain ⟨x95,h110,h⟩:=aD h;obtain ⟨x96,h111,h⟩:=aD h;refine eV λ_ z=>?_;simp only [go_sem,seval,lR u0,s103,k93.hF,s94,e41];refine SC.bA (yY x84.1.cP x92.bV _ h110 _ _ _) ?_;simp only [go_sem,seval,lR u0,e41];refine SC.bA (bM a0 x84.2 x95 132 a2.fV _ h111 _ _ _ P0 F0 fp0 S0 C0) ?_;simp only [go_sem,seval,s94];apply z;refine bC ?_;refine cB ?_;cases h;refine ⟨zc,?_⟩;simp only [go_sem,seval,s94,e41];refine ⟨_,_,Fr.to (q:=q) (p:=P0) ?_ u0 (by simp only [go_sem,seval,lR u0]),?_⟩
    ·simp only [go_sem,e41]
    ·simp only [go_sem,s109,e41]
def mZ (f:aG->aH->aB->Bool->Option ((List aA) × aG × aH)):Prop:=∀a0 a1 a2 a3 r,f a0 a1 a2 a3=some r->∀(q:Pa) (m:M) (vs:List V) (P0:Pa) (F0 fp0 S0 C0:V),vs.map V.weak1=[.ptr P0 0,.agg ((aB.C a2)),.lb a3]/\m.blk P0=some (pZ F0 fp0 S0 C0 a0 a1)/\fA F0 fp0 S0 C0 m.hp a0/\m.gl 0=.eptr [(cA bK.C dD)] 0 0->SC prog 59 vs q m (λv Y=>∃(S:V) (h:Hp) (vr:Nat->Nat),v=.list .none (r.1.map aA.C)/\Y=m.ck P0 (pZ F0 fp0 S C0 r.2.1 r.2.2) h vr/\fA F0 fp0 S C0 h r.2.1)
def qK (f:aG->aH->aB->Bool->Option (aA × aG × aH)):Prop:=∀a0 a1 a2 a3 r,f a0 a1 a2 a3=some r->∀(q:Pa) (m:M) (vs:List V) (P0:Pa) (F0 fp0 S0 C0:V),vs.map V.weak1=[.ptr P0 0,.agg ((aB.C a2)),.lb a3]/\m.blk P0=some (pZ F0 fp0 S0 C0 a0 a1)/\fA F0 fp0 S0 C0 m.hp a0/\m.gl 0=.eptr [(cA bK.C dD)] 0 0->SC prog 90 vs q m (λv Y=>∃(S:V) (h:Hp) (vr:Nat->Nat),v=.agg ((aA.C r.1))/\Y=m.ck P0 (pZ F0 fp0 S C0 r.2.1 r.2.2) h vr/\fA F0 fp0 S C0 h r.2.1)
def sW (f:aG->aH->aB->aA->Option (aA × aG × aH)):Prop:=∀a0 a1 a2 a3 r,f a0 a1 a2 a3=some r->∀(q:Pa) (m:M) (vs:List V) (P0:Pa) (F0 fp0 S0 C0:V),vs.map V.weak1=[.ptr P0 0,.agg ((aB.C a2)),.agg ([.ls a3.eG,.li a3.cZ,.li a3.gI,.nilv,.list .none (a3.bR.map aA.C),.list .none (a3.iP.map aA.C),.li a3.fV])]/\m.blk P0=some (pZ F0 fp0 S0 C0 a0 a1)/\fA F0 fp0 S0 C0 m.hp a0/\m.gl 0=.eptr [(cA bK.C dD)] 0 0->SC prog 134 vs q m (λv Y=>∃(S:V) (h:Hp) (vr:Nat->Nat),v=.agg ((aA.C r.1))/\Y=m.ck P0 (pZ F0 fp0 S C0 r.2.1 r.2.2) h vr/\fA F0 fp0 S C0 h r.2.1)
theorem Bc {eE} (sM:qK eE) (n:Nat):mZ (mY eE n):=by
 rintro a0 a1 a2 a3 r h q m vs P0 F0 fp0 S0 C0 ⟨hv,w0,t0,hg0⟩;refine SC.wv hv ?_;refine SC.ap w0 λu0 l0=>?_
 try simp only [go_sem] at w0 l0
 refine oE func59 call59 ntmps59 results59 ?_;unfold mY at h;refine bC ?_;refine aN ?_;have s2:=(fA.scopeS t0);refine bX λ_ z=>?_;simp only [go_sem,seval,jZ u0,s2.al,w0];apply z;refine bC ?_;refine aN (bC ?_);refine cK ?_;obtain ⟨y8,j8,h⟩:=aD h;refine zU 8 ([].map aA.C) rfl (by simp only [go_sem,seval]) ?_;refine rG (λc X Y=>∃v4 v5 v6 v7 o_v4 j_v4 S_v6,kF eE a2 a3 c v4 v5 v6 v7=some y8/\X 0=.ptr P0 0/\X 2=.lb a3/\X 4=.ptr (0::q) 0/\X 7=.li (a0.bI.length:Int)/\X 8=.list (.st (.anon o_v4 j_v4)) (v4.map aA.C)/\Y.tok o_v4 j_v4=true/\q <:+ o_v4/\X 17=.list .none (a2.aM.map aB.C)/\X 18=.li (a2.aM.length:Int)/\X 19=.li v5/\Y.blk P0=some (pZ F0 fp0 S_v6 C0 v6 v7)/\fA F0 fp0 S_v6 C0 Y.hp v6/\Y.blk (0::q)=some ((aB.C a2))/\Y.gl=m.gl/\Fr q P0 m Y) n ⟨[],0,a0,a1,(13::q),0,S0,j8,?_⟩ ?_
 ·simp only [go_sem,seval,gY u0,jZ u0,t0,w0]
 rintro i3 c9 E10 m11 ⟨v4,v5,v6,v7,o_v4,j_v4,S_v6,j8,e12⟩ _
 rcases c9 with _ | c9
 ·cases j8
 rw [kF] at j8;have bv6:fA F0 fp0 S_v6 C0 m11.hp v6:=by simp only [e12]
 refine bC ?_;refine aN (cY j8 (λc13 j8=>?_) (λc13 j8=>?_))
 ·refine bL ?_
  refine aN (cK (aN ?_));obtain ⟨x14,h19,j8⟩:=aD j8;obtain ⟨f16,f17,f18⟩:=aY h19;refine dY ?_;refine aN (bC ?_);refine cY j8 (λc20 j8=>?_) (λc20 j8=>?_)
  ·refine gE ?_
   try simp only [seval,cV,cM,aR]
   cases j8;refine aN ?_;have s24:=(fA.scopeS bv6);obtain ⟨⟨f21',f22'⟩,h⟩:=bN h;have f21:0<=(a0.bI.length:Int):=f21';have f22:(a0.bI.length:Int)<=(v6.bI.length:Int):=f22';have s25:tV (zP S_v6 (a0.bI.length)) 1 (v6.bI.take (a0.bI.length)).length:=tV.cutL (fA.scopeS bv6) f22;have k23:fA F0 fp0 (zP S_v6 (a0.bI.length)) C0 m11.hp ({ v6 with bI:=(v6.bI.take (a0.bI.length)) }:aG):=fA.cutS bv6 za rfl rfl rfl rfl;refine bX λ_ z=>?_;simp only [go_sem,seval,jZ u0,c20,s24.al,tV.slHi (P:=prog) (k:=.i64) (fA.scopeS bv6) Ty f21 f22,s25.cells,s25.cok,s25.st1,e12];apply z;refine xN ?_;simp only [go_sem,seval,e12];refine cB ?_;cases h;refine ⟨zc,?_⟩;simp only [go_sem,seval];refine ⟨(zP S_v6 (a0.bI.length)),_,_,Fr.to (q:=q) (p:=P0) ?_ u0 (by simp only [go_sem,seval]),?_⟩
   ·simp only [go_sem,e12]
   ·simp only [go_sem,k23]
  ·refine bL ?_
   try simp only [aR]
   obtain ⟨y26,j26,j8⟩:=aD j8;refine rE 28 (λX Y=>∃(oy26_8:Pa) (jy26_8:Nat),∃(S_y26_2_1:V),X 0=.ptr P0 0/\X 2=.lb a3/\X 4=.ptr (0::q) 0/\X 7=.li (a0.bI.length:Int)/\X 8=.list (.st (.anon oy26_8 jy26_8)) (y26.1.map aA.C)/\Y.tok oy26_8 jy26_8=true/\q <:+ oy26_8/\X 17=.list .none (a2.aM.map aB.C)/\X 18=.li (a2.aM.length:Int)/\X 19=.li v5/\Y.blk P0=some (pZ F0 fp0 S_y26_2_1 C0 y26.2.1 y26.2.2)/\fA F0 fp0 S_y26_2_1 C0 Y.hp y26.2.1/\Y.blk (0::q)=some ((aB.C a2))/\Y.gl=m.gl/\Fr q P0 m Y) ?_ ?_
   ·rcases mL j26 with ⟨c27,j26⟩ | ⟨c27,j26⟩
    ·obtain ⟨x28,h29,j26⟩:=aD j26;refine bX λ_ z=>?_;simp only [go_sem,seval,c20,c27,e12];refine SC.mono (sM v6 v7 x14 (v5 == (i64.wrap ((a2.aM.length:Int) - 1))) _ h29 _ _ _ P0 F0 fp0 S_v6 C0 (by simp only [go_sem,seval,jZ u0,bv6,e12,hg0])) ?_;rintro _ _ ⟨S_x28,h_x28,vr_x28,rfl,rfl,hk_x28⟩;obtain ⟨f30,j26⟩:=bN j26;have f31:v4.length+1<=1073741824:=by first | omega | (simp only [nB,jJ,mO] at f30 ⊢;omega)
     have f32:v4.length<=1073741823:=by first | omega | (simp only [nB,jJ,mO] at f30 ⊢;omega)
     simp only [go_sem,seval,f31,e12];apply z;cases j26;refine ⟨zb,(26::i3::14::q),0,S_x28,?_⟩;simp only [go_sem,seval,gY u0,jZ u0,c27,hk_x28,e12]
    ·obtain ⟨x33,h34,j26⟩:=aD j26;refine bX λ_ z=>?_;simp only [go_sem,seval,c20,c27,e12];refine SC.mono (sM v6 v7 x14 false _ h34 _ _ _ P0 F0 fp0 S_v6 C0 (by simp only [go_sem,seval,jZ u0,bv6,e12,hg0])) ?_;rintro _ _ ⟨S_x33,h_x33,vr_x33,rfl,rfl,hk_x33⟩;obtain ⟨f35,j26⟩:=bN j26;have f36:v4.length+1<=1073741824:=by first | omega | (simp only [nB,jJ,mO] at f35 ⊢;omega)
     have f37:v4.length<=1073741823:=by first | omega | (simp only [nB,jJ,mO] at f35 ⊢;omega)
     simp only [go_sem,seval,f36,e12];apply z;cases j26;refine ⟨zb,(26::i3::14::q),0,S_x33,?_⟩;simp only [go_sem,seval,gY u0,jZ u0,c27,hk_x33,e12]
   ·rintro E38 m39 ⟨oy26_8,jy26_8,S_y26_2_1,e40⟩ _;simp only [aR,bJ];have hk_y26_2_1:fA F0 fp0 S_y26_2_1 C0 m39.hp y26.2.1:=by simp only [e40]
    refine dY ?_;refine ⟨c9,EO _,y26.1,(i64.wrap (v5+1)),y26.2.1,y26.2.2,oy26_8,jy26_8,S_y26_2_1,j8,?_⟩;simp only [go_sem,seval,hk_y26_2_1,e40]
 ·refine gE ?_
  try simp only [cV,cM,↓reduceIte,aR]
  cases j8;refine aN ?_;have s44:=(fA.scopeS bv6);obtain ⟨⟨f41',f42'⟩,h⟩:=bN h;have f41:0<=(a0.bI.length:Int):=f41';have f42:(a0.bI.length:Int)<=(v6.bI.length:Int):=f42';have s45:tV (zP S_v6 (a0.bI.length)) 1 (v6.bI.take (a0.bI.length)).length:=tV.cutL (fA.scopeS bv6) f42;have k43:fA F0 fp0 (zP S_v6 (a0.bI.length)) C0 m11.hp ({ v6 with bI:=(v6.bI.take (a0.bI.length)) }:aG):=fA.cutS bv6 za rfl rfl rfl rfl;refine bX λ_ z=>?_;simp only [go_sem,seval,c13,s44.al,tV.slHi (P:=prog) (k:=.i64) (fA.scopeS bv6) Ty f41 f42,s45.cells,s45.cok,s45.st1,e12];apply z;refine xN ?_;simp only [go_sem,seval,e12];refine cB ?_;cases h;refine ⟨zc,?_⟩;simp only [go_sem,seval];refine ⟨(zP S_v6 (a0.bI.length)),_,_,Fr.to (q:=q) (p:=P0) ?_ u0 (by simp only [go_sem,seval]),?_⟩
  ·simp only [go_sem,e12]
  ·simp only [go_sem,k43]
theorem yI {dJ} (nX:mZ dJ) {pB} (BQ:sW pB) (n:Nat):qK (kK dJ pB n):=by
 rintro a0 a1 a2 a3 r h q m vs P0 F0 fp0 S0 C0 ⟨hv,w0,t0,hg0⟩;refine SC.wv hv ?_;refine SC.ap w0 λu0 l0=>?_
 try simp only [go_sem] at w0 l0
 refine oE func90 call90 ntmps90 results90 ?_;unfold kK at h;refine bC ?_;refine bC ?_;refine vN (id:=(5::q)) (off:=3) (cs:=[.ls [],.li (-1:Int),.li 0,.list .self ([].map aF.C),.list .self ([].map aA.C),.list .self ([].map aA.C),.li a2.fV]) (by simp only [go_sem,seval]) rfl ?_;refine aN (bC ?_);refine cK (bC ?_);refine cY h (λc4 h=>?_) (λc4 h=>?_)
 ·refine aN ?_;obtain ⟨x5,h10,h⟩:=aD h;obtain ⟨f7,f8,f9⟩:=aY h10;have f11:a2.aM[0]? = some x5:=f9;obtain ⟨x6,h12,h⟩:=aD h;refine bX λ_ z=>?_;simp only [go_sem,seval,c4,f7,f8,f11];refine SC.bA (jO n a0 a1 x5 _ h12 _ _ _ P0 F0 fp0 S0 C0) ?_;simp only [go_sem,seval,jZ u0];apply z;obtain ⟨x13,h14,h⟩:=aD h;refine kM λ_ z=>?_;simp only [go_sem,seval,jZ u0];refine SC.mono (iK n a0 x6.2 (aJ.mk a2.dL 1 0) a2.fV _ h14 _ _ _ P0 F0 fp0 S0 C0 (by simp only [go_sem,seval,jZ u0,t0])) ?_;rintro _ _ ⟨S_x13,h_x13,vr_x13,rfl,rfl,hk_x13⟩;simp only [go_sem,seval,jZ u0];apply z;simp only [aR,bJ];refine bC ?_;refine cB ?_;cases h;refine ⟨zc,?_⟩;simp only [go_sem,seval,jZ u0];refine ⟨S_x13,_,_,Fr.to (q:=q) (p:=P0) ?_ u0 (by simp only [go_sem,seval,jZ u0]),?_⟩
  ·simp only [go_sem]
  ·simp only [go_sem,hk_x13]
 ·refine bC ?_;refine cY h (λc15 h=>?_) (λc15 h=>?_)
  ·refine aN ?_;obtain ⟨x16,h17,h⟩:=aD h;refine bX λ_ z=>?_;simp only [go_sem,seval,c15];refine SC.mono (CS n a0 a1 a2 (aA.mk [] (-1:Int) 0 [] [] [] a2.fV) _ h17 _ _ _ P0 F0 fp0 S0 C0 (by simp only [go_sem,seval,jZ u0,t0,w0,hg0])) ?_;rintro _ _ ⟨S_x16,h_x16,vr_x16,rfl,rfl,hk_x16⟩;simp only [go_sem,seval,jZ u0];apply z;refine cB ?_
   try simp only [cE,gP]
   cases h;refine ⟨zc,?_⟩;simp only [go_sem,seval,jZ u0];refine ⟨S_x16,_,_,Fr.to (q:=q) (p:=P0) ?_ u0 (by simp only [go_sem,seval,jZ u0]),?_⟩
   ·simp only [go_sem]
   ·simp only [go_sem,hk_x16]
  ·refine bC ?_;refine cY h (λc18 h=>?_) (λc18 h=>?_)
   ·refine aN ?_;obtain ⟨x19,h21,h⟩:=aD h;obtain ⟨x20,h22,h⟩:=aD h;refine eV λ_ z=>?_;simp only [go_sem,seval,c18];refine SC.bA (Fu (i64.wrap (min a2.nY 1025)) _ h21 _ _ _) ?_;simp only [go_sem,seval];refine SC.bA (bM a0 a1 x19 136 a2.fV _ h22 _ _ _ P0 F0 fp0 S0 C0) ?_;simp only [go_sem,seval];apply z;refine Gj (id:=(5::q)) (off:=3) (cs:=[.ls [],.li (-1:Int),.li 0,.nilv,.list .self ([].map aA.C),.list .self ([].map aA.C),.li a2.fV]) (by simp only [go_sem,seval,jZ u0]) rfl ?_;obtain ⟨x23,h24,h⟩:=aD h;refine kM λ_ z=>?_;simp only [go_sem,seval,jZ u0];refine SC.mono (iK n a0 x20 (aJ.mk a2.dL 4 (i64.wrap a2.nY)) a2.fV _ h24 _ _ _ P0 F0 fp0 S0 C0 (by simp only [go_sem,seval,jZ u0,t0])) ?_;rintro _ _ ⟨S_x23,h_x23,vr_x23,rfl,rfl,hk_x23⟩;simp only [go_sem,seval,jZ u0];apply z;simp only [aR,bJ];refine bC ?_;refine cB ?_;cases h;refine ⟨zc,?_⟩;simp only [go_sem,seval,jZ u0];refine ⟨S_x23,_,_,Fr.to (q:=q) (p:=P0) ?_ u0 (by simp only [go_sem,seval,jZ u0]),?_⟩
    ·simp only [go_sem]
    ·simp only [go_sem,hk_x23]
   ·refine bC ?_;refine cY h (λc25 h=>?_) (λc25 h=>?_)
    ·refine aN ?_;obtain ⟨x26,h27,h⟩:=aD h;refine bX λ_ z=>?_;simp only [go_sem,seval,c25];refine SC.mono (Ed n a0 a1 a2 (aA.mk [] (-1:Int) 0 [] [] [] a2.fV) _ h27 _ _ _ P0 F0 fp0 S0 C0 (by simp only [go_sem,seval,jZ u0,t0,w0,hg0])) ?_;rintro _ _ ⟨h_x26,vr_x26,rfl,rfl,hk_x26⟩;simp only [go_sem,seval,jZ u0];apply z;refine cB ?_
     try simp only [cE,gP]
     cases h;refine ⟨zc,?_⟩;simp only [go_sem,seval,jZ u0];refine ⟨S0,_,_,Fr.to (q:=q) (p:=P0) ?_ u0 (by simp only [go_sem,seval,jZ u0]),?_⟩
     ·simp only [go_sem]
     ·simp only [go_sem,hk_x26]
    ·refine bC ?_;refine cY h (λc28 h=>?_) (λc28 h=>?_)
     ·refine aN ?_;obtain ⟨x29,h30,h⟩:=aD h;refine bX λ_ z=>?_;simp only [go_sem,seval,c28];refine SC.bA (Ee n a0 a1 a2 (aA.mk [] (-1:Int) 0 [] [] [] a2.fV) _ h30 _ _ _ P0 F0 fp0 S0 C0) ?_;simp only [go_sem,seval,jZ u0];apply z;refine cB ?_
      try simp only [cE,gP]
      cases h;refine ⟨zc,?_⟩;simp only [go_sem,seval];refine ⟨S0,_,_,Fr.to (q:=q) (p:=P0) ?_ u0 (by simp only [go_sem,seval,jZ u0]),?_⟩
      ·simp only [go_sem]
      ·simp only [go_sem,t0]
     ·refine bC ?_;refine cY h (λc31 h=>?_) (λc31 h=>?_)
      ·refine aN ?_;obtain ⟨x32,h33,h⟩:=aD h;refine bX λ_ z=>?_;simp only [go_sem,seval,c31];refine SC.mono (pW n a0 a1 a2 (aA.mk [] (-1:Int) 0 [] [] [] a2.fV) (-1:Int) _ h33 _ _ _ P0 F0 fp0 S0 C0 (by simp only [go_sem,seval,jZ u0,t0,w0,hg0])) ?_;rintro _ _ ⟨h_x32,vr_x32,rfl,rfl,hk_x32⟩;simp only [go_sem,seval,jZ u0];apply z;refine cB ?_
       try simp only [cE,gP]
       cases h;refine ⟨zc,?_⟩;simp only [go_sem,seval,jZ u0];refine ⟨S0,_,_,Fr.to (q:=q) (p:=P0) ?_ u0 (by simp only [go_sem,seval,jZ u0]),?_⟩
       ·simp only [go_sem]
       ·simp only [go_sem,hk_x32]
      ·refine bC ?_;refine cY h (λc34 h=>?_) (λc34 h=>?_)
       ·refine aN ?_;obtain ⟨x35,h40,h⟩:=aD h;obtain ⟨f37,f38,f39⟩:=aY h40;have f41:a2.aM[0]? = some x35:=f39;obtain ⟨x36,h42,h⟩:=aD h;refine bX λ_ z=>?_;simp only [go_sem,seval,c34,f37,f38,f41];refine SC.bA (jO n a0 a1 x35 _ h42 _ _ _ P0 F0 fp0 S0 C0) ?_;simp only [go_sem,seval,jZ u0];apply z;refine aN ?_;obtain ⟨x43,h48,h⟩:=aD h;obtain ⟨f45,f46,f47⟩:=aY h48;have f49:a2.aM[1]? = some x43:=f47;obtain ⟨x44,h50,h⟩:=aD h;refine bX λ_ z=>?_;simp only [go_sem,seval,jZ u0,f45,f46,f49];refine SC.mono (nX a0 x36.2 x43 false _ h50 _ _ _ P0 F0 fp0 S0 C0 (by simp only [go_sem,seval,jZ u0,t0,hg0])) ?_;rintro _ _ ⟨S_x44,h_x44,vr_x44,rfl,rfl,hk_x44⟩;simp only [go_sem,seval,jZ u0];apply z;refine aN ?_;obtain ⟨⟨f51,f52⟩,h⟩:=bN h;refine dY ?_;refine cK ?_;obtain ⟨y58,j58,h⟩:=aD h;refine Id [] [((5::q),5)] rfl (λc X Y=>∃v54 v55 v56 v57 S_v55,gU dJ a2 c v54 v55 v56 v57=some y58/\X 0=.ptr P0 0/\X 6=.ptr (1::q) 0/\X 7=.ptr (5::q) 0/\X 101=.list .none ((a2.aM.drop 2).map aB.C)/\X 102=.li ((a2.aM.drop 2).length:Int)/\X 103=.li v54/\Y.blk P0=some (pZ F0 fp0 S_v55 C0 v55 v56)/\fA F0 fp0 S_v55 C0 Y.hp v55/\Y.blk (1::q)=some ([.ls [],.li 0,.li 0,.list .self ([].map aF.C),.list .self ([].map aA.C),.list .self ([].map aA.C),.li 0])/\Y.blk (5::q)=some ([.ls v57.eG,.li v57.cZ,.li v57.gI,.list .self (v57.aM.map aF.C),.list .none (v57.bR.map aA.C),.list .none (v57.iP.map aA.C),.li v57.fV])/\Y.gl=m.gl/\Fr q P0 m Y) n ⟨0,x44.2.1,x44.2.2,(aA.mk ([105,102]:cQ) (-1:Int) 0 [x36.1] x44.1 [] a2.fV),S_x44,j58,?_⟩ ?_
        ·simp only [go_sem,seval,jZ u0,hk_x44]
        rintro i53 c59 E60 m61 ⟨v54,v55,v56,v57,S_v55,j58,e62⟩ _
        rcases c59 with _ | c59
        ·cases j58
        rw [gU] at j58;have bv55:fA F0 fp0 S_v55 C0 m61.hp v55:=by simp only [e62]
        refine bC ?_;refine aN (cY j58 (λc63 j58=>?_) (λc63 j58=>?_))
        ·refine bL ?_
         refine aN (cK (aN ?_));obtain ⟨x64,h69,j58⟩:=aD j58;obtain ⟨f66,f67,f68⟩:=aY h69;refine dY ?_;obtain ⟨x70,h71,j58⟩:=aD j58;refine kM λ_ z=>?_;simp only [go_sem,seval,e62];refine SC.mono (nX v55 v56 x64 false _ h71 _ _ _ P0 F0 fp0 S_v55 C0 (by simp only [go_sem,seval,jZ u0,bv55,e62,hg0])) ?_;rintro _ _ ⟨S_x70,h_x70,vr_x70,rfl,rfl,hk_x70⟩;simp only [go_sem,seval,jZ u0,e62];apply z;simp only [aR,bJ];refine dY ?_;refine ⟨c59,EO _,(i64.wrap (v54+1)),x70.2.1,x70.2.2,({ v57 with iP:=x70.1 }:aA),S_x70,j58,?_⟩;simp only [go_sem,seval,jZ u0,hk_x70,e62]
        ·refine gE ?_
         try simp only [cV,cM,↓reduceIte,aR,bJ]
         cases j58;refine bC ?_;refine cB ?_;cases h;refine ⟨zc,?_⟩;simp only [go_sem,seval,e62];refine ⟨S_v55,_,_,Fr.to (q:=q) (p:=P0) ?_ u0 (by simp only [go_sem,seval,jZ u0,e62]),?_⟩
         ·simp only [go_sem,e62]
         ·simp only [go_sem,bv55]
       ·refine bC ?_;refine cY h (λc72 h=>?_) (λc72 h=>?_)
        ·refine aN ?_;obtain ⟨x73,h74,h⟩:=aD h;refine bX λ_ z=>?_;simp only [go_sem,seval,c72];refine SC.mono (BQ a0 a1 a2 (aA.mk [] (-1:Int) 0 [] [] [] a2.fV) _ h74 _ _ _ P0 F0 fp0 S0 C0 (by simp only [go_sem,seval,jZ u0,t0,w0,hg0])) ?_;rintro _ _ ⟨S_x73,h_x73,vr_x73,rfl,rfl,hk_x73⟩;simp only [go_sem,seval,jZ u0];apply z;refine cB ?_
         try simp only [cE,gP]
         cases h;refine ⟨zc,?_⟩;simp only [go_sem,seval,jZ u0];refine ⟨S_x73,_,_,Fr.to (q:=q) (p:=P0) ?_ u0 (by simp only [go_sem,seval,jZ u0]),?_⟩
         ·simp only [go_sem]
         ·simp only [go_sem,hk_x73]
        ·refine bC ?_;refine cY h (λc75 h=>?_) (λc75 h=>?_)
         ·refine aN ?_;obtain ⟨x76,h77,h⟩:=aD h;refine bX λ_ z=>?_;simp only [go_sem,seval,c75];refine SC.mono (Du n a0 a1 a2 (aA.mk [] (-1:Int) 0 [] [] [] a2.fV) a3 _ h77 _ _ _ P0 F0 fp0 S0 C0 (by simp only [go_sem,seval,jZ u0,t0,w0,hg0])) ?_;rintro _ _ ⟨h_x76,vr_x76,rfl,rfl,hk_x76⟩;simp only [go_sem,seval,jZ u0];apply z;refine cB ?_
          try simp only [cE,gP]
          cases h;refine ⟨zc,?_⟩;simp only [go_sem,seval,jZ u0];refine ⟨S0,_,_,Fr.to (q:=q) (p:=P0) ?_ u0 (by simp only [go_sem,seval,jZ u0]),?_⟩
          ·simp only [go_sem]
          ·simp only [go_sem,hk_x76]
         ·refine Gj (id:=(5::q)) (off:=3) (cs:=[.ls [],.li (-1:Int),.li 0,.nilv,.list .self ([].map aA.C),.list .self ([].map aA.C),.li a2.fV]) (by simp only [go_sem,seval]) rfl ?_;refine bL ?_
          try simp only [aR,bJ]
          refine bC ?_;refine cB ?_;cases h;refine ⟨zc,?_⟩;simp only [go_sem,seval];refine ⟨S0,_,_,Fr.to (q:=q) (p:=P0) ?_ u0 (by simp only [go_sem,seval,jZ u0,w0]),?_⟩
          ·simp only [go_sem]
          ·simp only [go_sem,t0]
theorem BH {dJ} (nX:mZ dJ) (n:Nat):sW (nT dJ n):=by
 rintro a0 a1 a2 a3 r h q m vs P0 F0 fp0 S0 C0 ⟨hv,w0,t0,hg0⟩;refine SC.wv hv ?_;refine SC.ap w0 λu0 l0=>?_
 try simp only [go_sem] at w0 l0
 refine oE func134 call134 ntmps134 results134 ?_;unfold nT at h;refine bC ?_;refine vN (id:=(1::q)) (off:=3) (cs:=[.ls a3.eG,.li a3.cZ,.li a3.gI,.list .self ([].map aF.C),.list .none (a3.bR.map aA.C),.list .none (a3.iP.map aA.C),.li a3.fV]) (by simp only [go_sem,seval]) rfl ?_;refine aN ?_;obtain ⟨x4,h11,h⟩:=aD h;obtain ⟨f8,f9,f10⟩:=aY h11;have f12:a2.aM[0]? = some x4:=f10;obtain ⟨x5,h13,h⟩:=aD h;obtain ⟨x6,h17,h⟩:=aD h;obtain ⟨f14,f15,f16⟩:=aY h17;have f18:a2.aM[1]? = some x6:=f16;obtain ⟨x7,h19,h⟩:=aD h;refine eV λ_ z=>?_;simp only [go_sem,seval,f8,f9,f12,f14,f15,f18];refine SC.bA (jO n a0 a1 x4 _ h13 _ _ _ P0 F0 fp0 S0 C0) ?_;simp only [go_sem,seval,lR u0,f18];refine SC.bA (jO n a0 x5.2 x6 _ h19 _ _ _ P0 F0 fp0 S0 C0) ?_;simp only [go_sem,seval,lR u0];apply z;refine aN ?_;have s20:=(fA.scopeS t0);refine bX λ_ z=>?_;simp only [go_sem,seval,lR u0,s20.al];apply z;refine aN ?_;obtain ⟨x21,h22,h⟩:=aD h;refine bX λ_ z=>?_;simp only [go_sem,seval,lR u0];refine SC.mono (iK n a0 x7.2 (aJ.mk a2.dL 1 0) a2.fV _ h22 _ _ _ P0 F0 fp0 S0 C0 (by simp only [go_sem,seval,lR u0,t0])) ?_;rintro _ _ ⟨S_x21,h_x21,vr_x21,rfl,rfl,hk_x21⟩;simp only [go_sem,seval,lR u0];apply z;refine aN ?_;obtain ⟨x23,h28,h⟩:=aD h;obtain ⟨f25,f26,f27⟩:=aY h28;have f29:a2.aM[2]? = some x23:=f27;obtain ⟨x24,h30,h⟩:=aD h;refine bX λ_ z=>?_;simp only [go_sem,seval,lR u0,f25,f26,f29];refine SC.mono (nX x21.2.1 x21.2.2 x23 false _ h30 _ _ _ P0 F0 fp0 S_x21 C0 (by simp only [go_sem,seval,lR u0,hk_x21,hg0])) ?_;rintro _ _ ⟨S_x24,h_x24,vr_x24,rfl,rfl,hk_x24⟩;simp only [go_sem,seval,lR u0];apply z;refine aN ?_;have s34:=(fA.scopeS hk_x24);obtain ⟨⟨f31',f32'⟩,h⟩:=bN h;have f31:0<=(min (a0.bI.length:Int) (x24.2.1.bI.length:Int)):=f31';have f32:(min (a0.bI.length:Int) (x24.2.1.bI.length:Int))<=(x24.2.1.bI.length:Int):=f32';have s35:tV (zP S_x24 ((min (a0.bI.length:Int) (x24.2.1.bI.length:Int)).toNat)) 1 (x24.2.1.bI.take ((min (a0.bI.length:Int) (x24.2.1.bI.length:Int)).toNat)).length:=tV.cutL (fA.scopeS hk_x24) f32;have k33:fA F0 fp0 (zP S_x24 ((min (a0.bI.length:Int) (x24.2.1.bI.length:Int)).toNat)) C0 h_x24 ({ x24.2.1 with bI:=(x24.2.1.bI.take ((min (a0.bI.length:Int) (x24.2.1.bI.length:Int)).toNat)) }:aG):=fA.cutS hk_x24 za rfl rfl rfl rfl;refine eV λ_ z=>?_;simp only [go_sem,seval,lR u0,s34.al,tV.slHi (P:=prog) (k:=.i64) (fA.scopeS hk_x24) Ty f31 f32,s35.cells,s35.cok,s35.st1];apply z;refine bC ?_;refine cB ?_;cases h;refine ⟨zc,?_⟩;simp only [go_sem,seval,lR u0];refine ⟨(zP S_x24 ((min (a0.bI.length:Int) (x24.2.1.bI.length:Int)).toNat)),_,_,Fr.to (q:=q) (p:=P0) ?_ u0 (by simp only [go_sem,seval,lR u0]),?_⟩
 ·simp only [go_sem]
 ·simp only [go_sem,k33]
theorem tK:∀n,mZ (tU n)/\qK (BD n)/\sW (Fi n)
 | 0=>⟨λ_ _ _ _ _ h=>eO h,λ_ _ _ _ _ h=>eO h,λ_ _ _ _ _ h=>eO h⟩
 | n+1=>
   have ih:=tK n
   ⟨Bc ih.2.1 n,yI ih.1 ih.2.2 n,BH ih.1 n⟩
theorem CU (n:Nat):mZ (tU n):=(tK n).1
def IH (f:aB->Option Bool):Prop:=∀a0 r,f a0=some r->Ey prog 60 [.agg ((aB.C a0))] (.lb r)
theorem HZ:IH (vH):=λa0 r h q m vs hv=>SC.wva hv (fF func60 call60 ntmps60 results60 rfl (wk (.j 2 1 19 [.v 2 Bool λy=>.lb y] [] [] [] none .z .z) q m (vH.eq_1 _) h))
def Eh (f:aG->aH->Int->aB->Option (aG × aH)):Prop:=∀a0 a1 a2 a3 r,f a0 a1 a2 a3=some r->∀(q:Pa) (m:M) (vs:List V) (P0:Pa) (F0 fp0 S0 C0:V),vs.map V.weak1=[.ptr P0 0,.li a2,.agg ((aB.C a3))]/\m.blk P0=some (pZ F0 fp0 S0 C0 a0 a1)/\fA F0 fp0 S0 C0 m.hp a0/\m.gl 0=.eptr [(cA bK.C dD)] 0 0->SC prog 28 vs q m (λv Y=>∃(fp S:V) (h:Hp) (vr:Nat->Nat),v=.tup []/\Y=m.ck P0 (pZ F0 fp S C0 r.1 r.2) h vr/\fA F0 fp S C0 h r.1)
theorem Dt (n:Nat):Eh (lD n):=by
 rintro a0 a1 a2 a3 r h q m vs P0 F0 fp0 S0 C0 ⟨hv,w0,t0,hg0⟩;refine SC.wv hv ?_;refine SC.ap w0 λu0 l0=>?_
 try simp only [go_sem] at w0 l0
 refine oE func28 call28 ntmps28 results28 ?_;unfold lD at h;refine bC ?_;refine aN ?_;obtain ⟨x2,h3,h⟩:=aD h;refine bX λ_ z=>?_;simp only [go_sem,seval];refine SC.mono (vA n a0 a1 a2 _ h3 _ _ _ P0 F0 fp0 S0 C0 (by simp only [go_sem,seval,jZ u0,t0,w0])) ?_;rintro _ _ ⟨fp_x2,S_x2,h_x2,vr_x2,rfl,rfl,hk_x2⟩;simp only [go_sem,seval];apply z;refine aN ?_;obtain ⟨⟨f4,f5⟩,h⟩:=bN h;refine dY ?_;refine cK ?_;obtain ⟨y10,j10,h⟩:=aD h;refine rG (λc X Y=>∃v7 v8 v9 S_v8,jG n a3 c v7 v8 v9=some y10/\X 0=.ptr P0 0/\X 5=.ptr (0::q) 0/\X 18=.list .none ((a3.aM.drop (max (i64.wrap ((a3.aM.length:Int) - 1)) 0).toNat).map aB.C)/\X 19=.li ((a3.aM.drop (max (i64.wrap ((a3.aM.length:Int) - 1)) 0).toNat).length:Int)/\X 20=.li v7/\Y.blk P0=some (pZ F0 fp_x2 S_v8 C0 v8 v9)/\fA F0 fp_x2 S_v8 C0 Y.hp v8/\Y.blk (0::q)=some ((aB.C a3))/\Y.gl=m.gl/\Fr q P0 m Y) n ⟨0,x2.1,x2.2,S_x2,j10,?_⟩ ?_
 ·simp only [go_sem,seval,jZ u0,hk_x2]
 rintro i6 c11 E12 m13 ⟨v7,v8,v9,S_v8,j10,e14⟩ _
 rcases c11 with _ | c11
 ·cases j10
 rw [jG] at j10;have bv8:fA F0 fp_x2 S_v8 C0 m13.hp v8:=by simp only [e14]
 refine bC ?_;refine aN (cY j10 (λc15 j10=>?_) (λc15 j10=>?_))
 ·refine bL ?_
  refine aN (cK (aN ?_));obtain ⟨x16,h21,j10⟩:=aD j10;obtain ⟨f18,f19,f20⟩:=aY h21;refine dY ?_;refine aN ?_;obtain ⟨x22,h33,j10⟩:=aD j10;obtain ⟨f30,f31,f32⟩:=aY h33;obtain ⟨g23,d23,z23,k23⟩:=fA.foc bv8 f32;obtain ⟨p23,s34,s35,s36,s37,s38,s39,s40⟩:=k23.rows;have s41:=(fA.funcsR bv8);have s24:=fA.fpEq bv8 f30;have s42:fA F0 (.pp (qI F0) (v8.f_.toNat*6)) S_v8 C0 m13.hp v8:=by rw [←s24];exact bv8
  obtain ⟨x25,h43,j10⟩:=aD j10;refine eV λ_ z=>?_;simp only [go_sem,seval,jZ u0,s24,e14];refine SC.mono (CU n v8 v9 x16 true _ h43 _ _ _ P0 F0 fp_x2 S_v8 C0 (by simp only [go_sem,seval,jZ u0,s24,s42,e14,hg0])) ?_;rintro _ _ ⟨S_x25,h_x25,vr_x25,rfl,rfl,hk_x25⟩;obtain ⟨x26,h47,j10⟩:=aD j10;obtain ⟨f44,f45,f46⟩:=aY h47;obtain ⟨g27,d27,z27,k27⟩:=fA.foc hk_x25 f46;obtain ⟨p27,s48,s49,s50,s51,s52,s53,s54⟩:=k27.rows;have k28:fA F0 fp_x2 S_x25 C0 (tH h_x25 (qI F0) (z27.set (v8.f_.toNat*6+5) (.list .none (x25.1.map aA.C)))) ({ x25.2.1 with p_:=⟨(x25.2.1.p_.aU.set v8.f_.toNat { x26 with bR:=x25.1 })⟩ }:aG):=IO.setBody k27 rfl rfl rfl rfl;have k29:fA F0 (.pp (qI F0) (v8.f_.toNat*6)) S_x25 C0 (tH h_x25 (qI F0) (z27.set (v8.f_.toNat*6+5) (.list .none (x25.1.map aA.C)))) ({ x25.2.1 with p_:=⟨(x25.2.1.p_.aU.set v8.f_.toNat { x26 with bR:=x25.1 })⟩ }:aG):=by rw [←s24];exact k28
  simp only [go_sem,seval,gR,s24,k27.hF,k27.len5];apply z;simp only [aR];obtain ⟨y55,j55,j10⟩:=aD j10;refine rE 31 (λX Y=>X 0=.ptr P0 0/\X 5=.ptr (0::q) 0/\X 18=.list .none ((a3.aM.drop (max (i64.wrap ((a3.aM.length:Int) - 1)) 0).toNat).map aB.C)/\X 19=.li ((a3.aM.drop (max (i64.wrap ((a3.aM.length:Int) - 1)) 0).toNat).length:Int)/\X 20=.li v7/\Y.blk P0=some (pZ F0 fp_x2 S_x25 C0 ({ x25.2.1 with p_:=⟨(x25.2.1.p_.aU.set v8.f_.toNat { x26 with bR:=x25.1 })⟩ }:aG) y55)/\fA F0 fp_x2 S_x25 C0 Y.hp ({ x25.2.1 with p_:=⟨(x25.2.1.p_.aU.set v8.f_.toNat { x26 with bR:=x25.1 })⟩ }:aG)/\Y.blk (0::q)=some ((aB.C a3))/\Y.gl=m.gl/\Fr q P0 m Y/\Y.hp=(tH h_x25 (qI F0) (z27.set (v8.f_.toNat*6+5) (.list .none (x25.1.map aA.C))))) ?_ ?_
  ·obtain ⟨x56,h62,j55⟩:=aD j55;obtain ⟨f59,f60,f61⟩:=aY h62;obtain ⟨g57,d57,z57,k57⟩:=fA.foc k28 f61;obtain ⟨p57,s63,s64,s65,s66,s67,s68,s69⟩:=k57.rows;have k58:fA F0 (.pp (qI F0) (v8.f_.toNat*6)) S_x25 C0 (tH h_x25 (qI F0) (z27.set (v8.f_.toNat*6+5) (.list .none (x25.1.map aA.C)))) ({ x25.2.1 with p_:=⟨(x25.2.1.p_.aU.set v8.f_.toNat { x26 with bR:=x25.1 })⟩ }:aG):=by rw [←s24];exact k28
   rcases mL j55 with ⟨c70,j55⟩ | ⟨c70,j55⟩
   ·obtain ⟨x71,h72,j55⟩:=aD j55;refine eV λ_ z=>?_;simp only [go_sem,seval,jZ u0,s65,k57.hF,c70,e14];refine SC.bA (bM ({ x25.2.1 with p_:=⟨(x25.2.1.p_.aU.set v8.f_.toNat { x26 with bR:=x25.1 })⟩ }:aG) x25.2.2 true 135 a3.fV _ h72 _ _ _ P0 F0 fp_x2 S_x25 C0) ?_;simp only [go_sem,seval,s24];apply z;simp only [aR];cases j55;exact jD
   ·obtain ⟨x73,h75,j55⟩:=aD j55;obtain ⟨x74,h76,j55⟩:=aD j55;refine eV λ_ z=>?_;simp only [go_sem,seval,jZ u0,s65,k57.hF,c70,e14];refine SC.bA (HZ x16 _ h75 _ _ _) ?_;simp only [go_sem,seval,jZ u0,e14];refine SC.bA (bM ({ x25.2.1 with p_:=⟨(x25.2.1.p_.aU.set v8.f_.toNat { x26 with bR:=x25.1 })⟩ }:aG) x25.2.2 x73 135 a3.fV _ h76 _ _ _ P0 F0 fp_x2 S_x25 C0) ?_;simp only [go_sem,seval,s24];apply z;simp only [aR];cases j55;exact jD
  ·intro E77 m78 e79 _;simp only [aR,bJ];refine dY ?_;refine ⟨c11,EO _,(i64.wrap (v7+1)),({ x25.2.1 with p_:=⟨(x25.2.1.p_.aU.set v8.f_.toNat { x26 with bR:=x25.1 })⟩ }:aG),y55,S_x25,j10,?_⟩;simp only [go_sem,seval,s24,k29,e79]
 ·refine gE ?_
  try simp only [cV,cM,↓reduceIte]
  cases j10;cases h;refine ⟨zc,?_⟩;simp only [go_sem,c15];refine ⟨fp_x2,S_v8,_,_,Fr.to (q:=q) (p:=P0) ?_ u0 (by simp only [go_sem,e14]),?_⟩
  ·simp only [go_sem,e14]
  ·simp only [go_sem,bv8]
