import Derived.Test.YtnheknbibdgglaaGreatDoorTGMw0
namespace Go.Proofs.YtnheknbibdgglaaGreatDoor.Abs
open Go.RowKit Tryz
open IntKind (i64 u32 u64 u8)
set_option linter.all false
set_option maxRecDepth 10000
set_option maxHeartbeats 2000000
open Tryz
def Ir (f:bW->Option Int):Prop:=∀a0 r,f a0=some r->∀(q:Pa) (m:M) (vs:List V),vs.map V.weak1=[.ls a0]/\m.gl 0=.eptr [(cA bC.C cK)] 0 0->SC prog 54 vs q m (λv Y=>v=.li r/\Y=m)
theorem Hv (n:Nat):Ir (vB n):=λa0 r h q m vs ⟨hv,_⟩=>SC.wva hv (cY func54 call54 ntmps54 results54 rfl (wk (.l [.v 6 Int λy=>.li y] [0,5] [] [] none .z .z) q m (vB.eq_1 _ _) h))
instance:mN 54 (∀n,Ir (vB n)):=⟨Hv⟩
def Lb (f:Int->Option Int):Prop:=∀a0 r,f a0=some r->AQ prog 55 [.lw a0] (.li r)
theorem JG:Lb (yQ):=λa0 r h q m vs hv=>SC.wva hv (cY func55 call55 ntmps55 results55 rfl (wk .z q m (yQ.eq_1 _) h))
def Eq (f:aE->aG->aB->Option (aE × aG)):Prop:=∀a0 a1 a2 r,f a0 a1 a2=some r->∀(q:Pa) (m:M) (vs:List V) (P0:Pa) (F0 fp0 S0 C0:V),vs.map V.weak1=[.ptr P0 0,.agg ((aB.C a2))]/\m.blk P0=some (qU F0 fp0 S0 C0 a0 a1)/\eO F0 fp0 S0 C0 m.hp a0/\m.gl 0=.eptr [(cA bC.C cK)] 0 0->SC prog 26 vs q m (λv Y=>∃(F C:V) (h:Hp) (vr:Nat->Nat),v=.tup []/\Y=m.ck P0 (qU F fp0 S0 C r.1 r.2) h vr/\eO F fp0 S0 C h r.1)
theorem DP (n:Nat):Eq (pD n):=by
 rintro a0 a1 a2 r h q m vs P0 F0 fp0 S0 C0 ⟨hv,w0,t0,hg0⟩;refine SC.wv hv ?_;refine SC.ap w0 λu0 l0=>?_
 try simp only [go_sem] at w0 l0
 refine sS func26 call26 ntmps26 results26 ?_;unfold pD at h;refine bL ?_;refine aO ?_;obtain ⟨x2,h3,h⟩:=aF h;refine dD λ_ z=>?_;simp only [go_sem,seval];refine SC.bA (bG a0 a1 (decide ((a2.aL.length:Int)<=64)) 136 a2.fM _ h3 _ _ _ P0 F0 fp0 S0 C0) ?_;simp only [go_sem,seval];apply z;refine aO (bL ?_);refine cU ?_;obtain ⟨y8,j8,h⟩:=aF h;refine tQ (λc X Y=>∃v5 v6 v7 F_v6,kK n a2 c v5 v6 v7=some y8/\X 0=.ptr P0 0/\X 3=.ptr (0::q) 0/\X 17=.list .none (a2.aL.map aB.C)/\X 18=.li (a2.aL.length:Int)/\X 19=.li v5/\Y.blk P0=some (qU F_v6 fp0 S0 C0 v6 v7)/\eO F_v6 fp0 S0 C0 Y.hp v6/\Y.blk (0::q)=some ((aB.C a2))/\Y.gl=m.gl/\Fr q P0 m Y) n ⟨0,a0,x2,F0,j8,?_⟩ ?_
 ·simp only [go_sem,seval,pU u0,t0]
 rintro i4 c9 E10 m11 ⟨v5,v6,v7,F_v6,j8,e12⟩ _
 rcases c9 with _ | c9
 ·cases j8
 rw [kK] at j8;have bv6:eO F_v6 fp0 S0 C0 m11.hp v6:=by simp only [e12]
 refine bL ?_;refine aO (dI j8 (λc13 j8=>?_) (λc13 j8=>?_))
 ·refine bP ?_
  refine aO (cU (aO ?_));obtain ⟨x14,h19,j8⟩:=aF j8;obtain ⟨f16,f17,f18⟩:=bI h19;refine lP ?_;refine aO ?_;have s21:=(eO.funcsR bv6);obtain ⟨x20,h22,j8⟩:=aF j8;refine dZ λ_ z=>?_;simp only [go_sem,seval,pU u0,s21.al,e12];refine SC.by_ (yR n v6.p_ x14.cZ _ h22 _ _ _ F_v6 fp0 S0 C0 v6 (by simp only [go_sem,bv6,s21.al])) ?_;simp only [go_sem,seval];apply z;refine aO ?_;obtain ⟨y23,j23,j8⟩:=aF j8;refine tK 29 (λX Y=>X 0=.ptr P0 0/\X 3=.ptr (0::q) 0/\X 5=.ptr (3::i4::13::q) 0/\X 17=.list .none (a2.aL.map aB.C)/\X 18=.li (a2.aL.length:Int)/\X 19=.li v5/\Y.blk P0=some (qU F_v6 fp0 S0 C0 v6 y23)/\eO F_v6 fp0 S0 C0 Y.hp v6/\Y.blk (3::i4::13::q)=some ((aB.C x14))/\Y.blk (0::q)=some ((aB.C a2))/\Y.gl=m.gl/\Fr q P0 m Y/\Y.hp=m11.hp) ?_ ?_
  ·rcases jR j23 with ⟨c24,j23⟩ | ⟨c24,j23⟩
   ·obtain ⟨x25,h27,j23⟩:=aF j23;obtain ⟨x26,h28,j23⟩:=aF j23;refine dZ λ_ z=>?_;simp only [go_sem,seval,c24,e12];refine SC.bA (Hv n x14.cZ _ h27 _ _ _) ?_;simp only [go_sem,seval];refine SC.bA (bG v6 v7 (x25 == 0) 131 x14.fM _ h28 _ _ _ P0 F_v6 fp0 S0 C0) ?_;simp only [go_sem,seval];apply z;simp only [aK];cases j23;exact jD
   ·obtain ⟨x29,h30,j23⟩:=aF j23;refine dZ λ_ z=>?_;simp only [go_sem,seval,c24,e12];refine SC.bA (bG v6 v7 false 131 x14.fM _ h30 _ _ _ P0 F_v6 fp0 S0 C0) ?_;simp only [go_sem,seval];apply z;simp only [aK];cases j23;exact jD
  ·intro E31 m32 e33 _;simp only [aK];obtain ⟨x34,h38,j8⟩:=aF j8;obtain ⟨f39,j8⟩:=bY j8;obtain ⟨R35,R35R,R35l,R35a⟩:=eO.focF bv6 f39;obtain ⟨f40,j8⟩:=bY j8;refine vG λf41=>?_;have f36:m11.hp (46::i4::13::q)=none:=by have:=f41 46 (by omega);simpa only [go_sem,seval,t0,bv6,c13,e33] using this
   have k37:eO (.vec (46::i4::13::q) 6 (v6.p_.aV.length+1)) fp0 S0 C0 (HR m11.hp F_v6 (46::i4::13::q) (R35.flatten++[.ls x14.cZ,.lb ((sJ .u32 x14.jO 1) != 0),.li x34,.li 0,.nilv,.nilv])) ({ v6 with p_:=⟨(v6.p_.aV++[(aQ.mk x14.cZ ((sJ .u32 x14.jO 1) != 0) x34 0 [] [])])⟩ }:aE):=R35a (f:=(aQ.mk x14.cZ ((sJ .u32 x14.jO 1) != 0) x34 0 [] [])) f36 rfl rfl rfl rfl rfl rfl rfl;refine dZ λ_ z=>?_;simp only [go_sem,seval,s21.al,e33];refine SC.bA (JG x14.jO _ h38 _ _ _) ?_;simp only [go_sem,seval,s21.al,e33];refine EO (sz:=6) (rows:=R35) (by (try simp only [go_sem,e33]);have hR:=R35R;exact hR) Oa zc27 by27 (by decide) (by decide) rfl (by simp only [go_sem,seval]) (by simp only [go_sem,seval]) (by first | omega | (simp only [pX,sY];omega)) ?_;simp only [go_sem,seval,HO,List.flatten_nil,R35l,e33];apply z;simp only [aK,bU];refine lP ?_;refine ⟨c9,JO _,(i64.wrap (v5+1)),({ v6 with p_:=⟨(v6.p_.aV++[(aQ.mk x14.cZ ((sJ .u32 x14.jO 1) != 0) x34 0 [] [])])⟩ }:aE),y23,(.vec (46::i4::13::q) 6 (v6.p_.aV.length+1)),j8,?_⟩;simp only [go_sem,seval,pU u0,k37,e33]
 ·refine jJ ?_
  try simp only [dB,cP,↓reduceIte,aK]
  cases j8;obtain ⟨⟨f44,f45⟩,h⟩:=bY h;refine vG λf46=>?_;have f42:m11.hp (18::q)=none:=by have:=f46 18 (by omega);simpa only [go_sem,seval,t0,bv6,c13,e12] using this
  have k43:eO F_v6 fp0 S0 (.vec (18::q) 1 a2.aL.length) (lE m11.hp (18::q) (List.replicate a2.aL.length [V.nilv]).flatten) ({ v6 with bX:=(List.replicate a2.aL.length []) }:aE):=eO.mkCalls (n:=a2.aL.length) bv6 f42 rfl rfl rfl rfl;refine cX λ_ z=>?_;simp only [go_sem,seval,c13,f44,f45,e12];apply z;simp only [];cases h;refine ⟨by simp,?_⟩;simp only [go_sem,gG];refine ⟨F_v6,(.vec (18::q) 1 a2.aL.length),_,_,Fr.to (q:=q) (p:=P0) ?_ u0 (by simp only [go_sem,seval]),?_⟩
  ·simp only [go_sem,e12]
  ·simp only [go_sem,k43]
def Ex (f:aE->aG->Int->Option (aE × aG)):Prop:=∀a0 a1 a2 r,f a0 a1 a2=some r->∀(q:Pa) (m:M) (vs:List V) (P0:Pa) (F0 fp0 S0 C0:V),vs.map V.weak1=[.ptr P0 0,.li a2]/\m.blk P0=some (qU F0 fp0 S0 C0 a0 a1)/\eO F0 fp0 S0 C0 m.hp a0->SC prog 56 vs q m (λv Y=>∃(fp S:V) (h:Hp) (vr:Nat->Nat),v=.tup []/\Y=m.ck P0 (qU F0 fp S C0 r.1 r.2) h vr/\eO F0 fp S C0 h r.1)
theorem vT (n:Nat):Ex (mL n):=by
 rintro a0 a1 a2 r h q m vs P0 F0 fp0 S0 C0 ⟨hv,w0,t0⟩;refine SC.wv hv ?_;refine SC.ap w0 λu0 l0=>?_
 try simp only [go_sem] at w0 l0
 refine sS func56 call56 ntmps56 results56 ?_;unfold mL at h;refine aO ?_;have s6:=(eO.funcsR t0);obtain ⟨x1,h10,h⟩:=aF h;obtain ⟨f7,f8,f9⟩:=bI h10;obtain ⟨g2,d2,z2,k2⟩:=eO.foc t0 f9;obtain ⟨p2,s11,s12,s13,s14,s15,s16,s17⟩:=k2.rows;have k3:eO F0 (.pp (rA F0) (a2.toNat*6)) S0 C0 m.hp ({ a0 with f_:=a2 }:aE):=eO.setFn t0 (by assumption) rfl rfl rfl rfl;have k4:eO F0 (.pp (rA F0) (a2.toNat*6)) .nilv C0 m.hp ({ a0 with f_:=a2,bB:=[] }:aE):=eO.nilS k3 rfl rfl rfl rfl;have k5:eO F0 (.pp (rA F0) (a2.toNat*6)) .nilv C0 m.hp ({ a0 with f_:=a2,bB:=[],gC:=a2 }:aE):=eO.same k4 rfl rfl rfl rfl;refine dD λ_ z=>?_;simp only [go_sem,seval,s6.al,uM.ix (P:=prog) (k:=.i64) (eO.funcsR t0) Oa f7 f8,w0];apply z;refine wF (id:=P0) (off:=2) (cs:=[F0,.pp (rA F0) (a2.toNat*6),.list .self [],C0,.li ({ a0 with f_:=a2,bB:=[],gC:=a2 }:aE).gC,.li a1.e_,.li a1.Dr]) (by simp only [go_sem,seval]) rfl ?_;refine aO ?_;obtain ⟨g18,d18,z18,k18⟩:=eO.foc k5 f9;obtain ⟨p18,s20,s21,s22,s23,s24,s25,s26⟩:=k18.rows;refine dD λ_ z=>?_;simp only [go_sem,seval,s14,k2.hF];apply z;refine cU ?_;obtain ⟨y30,j30,h⟩:=aF h;refine tQ (λc X Y=>∃v28 v29 S_v29,jB x1 c v28 v29=some y30/\X 0=.ptr P0 0/\X 28=.li x1.aT/\X 29=.li v28/\Y.blk P0=some (qU F0 (.pp (rA F0) (a2.toNat*6)) S_v29 C0 v29 a1)/\eO F0 (.pp (rA F0) (a2.toNat*6)) S_v29 C0 Y.hp v29/\Y.gl=m.gl/\Fr q P0 m Y) n ⟨0,({ a0 with f_:=a2,bB:=[],gC:=a2 }:aE),.nilv,j30,?_⟩ ?_
 ·simp only [go_sem,seval,k5]
 rintro i27 c31 E32 m33 ⟨v28,v29,S_v29,j30,e34⟩ _
 rcases c31 with _ | c31
 ·cases j30
 rw [jB] at j30;have bv29:eO F0 (.pp (rA F0) (a2.toNat*6)) S_v29 C0 m33.hp v29:=by simp only [e34]
 refine bL ?_;refine aO (dI j30 (λc35 j30=>?_) (λc35 j30=>?_))
 ·refine bP ?_
  refine aO (cU (bL ?_));have s38:=(eO.scopeS bv29);obtain ⟨f39,j30⟩:=bY j30;refine vG λf40=>?_;have f36:m33.hp (10::i27::28::q)=none:=by have:=f40 10 (by omega);simpa only [go_sem,seval,t0,k3,k4,k5,bv29,c35,e34] using this
  have k37:eO F0 (.pp (rA F0) (a2.toNat*6)) (.vec (10::i27::28::q) 1 (v29.bB.length+1)) C0 (HR m33.hp S_v29 (10::i27::28::q) ((v29.bB.map (cI .i64)).flatten++[.li v28])) ({ v29 with bB:=(v29.bB++[v28]) }:aE):=eO.appS bv29 f36 v28 rfl rfl rfl rfl;refine cX λ_ z=>?_;simp only [go_sem,seval,s38.al,e34];refine EO (sz:=1) (rows:=(v29.bB.map (cI .i64))) (by (try simp only [go_sem,seval,t0,k3,k4,k5,bv29,c35,k37,e34]);have hR:=(eO.scopeR bv29);exact hR) UG zc3 by3 (by decide) (by decide) rfl (by simp only [go_sem]) (by simp only [go_sem,seval]) (by first | omega | (simp only [Hh,pX,sY];omega)) ?_;simp only [go_sem,seval,HO,List.flatten_nil,e34];apply z;simp only [aK,bU];refine lP ?_;refine ⟨c31,JO _,(i64.wrap (v28+1)),({ v29 with bB:=(v29.bB++[v28]) }:aE),(.vec (10::i27::28::q) 1 (v29.bB.length+1)),j30,?_⟩;simp only [go_sem,seval,k37,e34]
 ·refine jJ ?_
  try simp only [dB,cP,↓reduceIte]
  cases j30;cases h;refine ⟨by simp,?_⟩;simp only [go_sem,c35];refine ⟨(.pp (rA F0) (a2.toNat*6)),S_v29,_,_,Fr.to (q:=q) (p:=P0) ?_ u0 (by simp only [go_sem,e34]),?_⟩
  ·simp only [go_sem,e34]
  ·simp only [go_sem,bv29]
def LP (f:Int->Option Bool):Prop:=∀a0 r,f a0=some r->AQ prog 88 [.li a0] (.lb r)
theorem GH:LP (xH):=λa0 r h q m vs hv=>SC.wva hv (cY func88 call88 ntmps88 results88 rfl (wk (.j 2 1 21 [.v 2 Bool λy=>.lb y] [] [] [] none .z .z) q m (xH.eq_1 _) h))
def yE (f:aE->aG->bW->Option Int):Prop:=∀a0 a1 a2 r,f a0 a1 a2=some r->∀(q:Pa) (m:M) (vs:List V) (P0:Pa) (F0 fp0 S0 C0:V),vs.map V.weak1=[.ptr P0 0,.ls a2]/\m.blk P0=some (qU F0 fp0 S0 C0 a0 a1)/\eO F0 fp0 S0 C0 m.hp a0->SC prog 128 vs q m (λv Y=>v=.li r/\Y=m)
theorem xC (n:Nat):yE (lM n):=by
 rintro a0 a1 a2 r h q m vs P0 F0 fp0 S0 C0 ⟨hv,w0,t0⟩;refine SC.wv hv ?_;refine SC.apart w0 λu0=>?_
 try simp only [go_sem] at w0
 refine sS func128 call128 ntmps128 results128 ?_;unfold lM at h;refine bL ?_;refine aO (aO ?_);have s1:=(eO.scopeS t0);refine dD λ_ z=>?_;simp only [go_sem,seval,s1.al,w0];apply z;refine cU ?_;obtain ⟨y4,j4,h⟩:=aF h;refine tQ (λc X Y=>∃v3,kY a0 a2 c v3=some y4/\X 0=.ptr P0 0/\X 1=.ls a2/\X 5=.li v3/\Y.blk P0=some (qU F0 fp0 S0 C0 a0 a1)/\Y.gl=m.gl/\Y.hp=m.hp/\m.back q Y=m) n ⟨(i64.wrap ((a0.bB.length:Int) - 1)),j4,?_⟩ ?_
 ·simp only [go_sem,seval,bV,w0]
 rintro i2 c5 E6 m7 ⟨v3,j4,e8⟩ _
 rcases c5 with _ | c5
 ·cases j4
 rw [kY] at j4;refine aO (bL ?_);refine dI j4 (λc9 j4=>?_) (λc9 j4=>?_)
 ·refine bP ?_
  refine aO (cU (aO ?_));obtain ⟨x10,h18,j4⟩:=aF j4;obtain ⟨f15,f16,f17⟩:=bI h18;obtain ⟨g11,d11,z11,k11⟩:=eO.foc t0 f17;obtain ⟨p11,s19,s20,s21,s22,s23,s24,s25⟩:=k11.rows;have s26:=(eO.funcsR t0);have s12:=eO.fpEq t0 f15;have s27:eO F0 (.pp (rA F0) (a0.f_.toNat*6)) S0 C0 m.hp a0:=by rw [←s12];exact t0
  have s28:=(iC.shC k11.vars);obtain ⟨x13,h32,j4⟩:=aF j4;obtain ⟨f29,f30,f31⟩:=bI h32;obtain ⟨H35,rs_H35,s33,s34⟩:=iC.readI' (eO.scopeR t0) f31;obtain ⟨x14,h39,j4⟩:=aF j4;obtain ⟨f36,f37,f38⟩:=bI h39;obtain ⟨H44,rs_H44,s40,s41,s42,s43⟩:=iC.readVar k11.vars f38;refine dZ λ_ z=>?_;simp only [go_sem,seval,s1.al,s23,k11.hF,s12,f29,uM.ix (P:=prog) (k:=.i64) (eO.scopeS t0) UG f29 f30,s33,s34,uM.ix (P:=prog) (k:=.i64) (iC.shC k11.vars) Kv f36 f37,s40,s41,e8];apply z;refine dI j4 (λc45 j4=>?_) (λc45 j4=>?_)
  ·refine yV ?_;simp only [go_sem,seval,s1.al,s12,uM.ix (P:=prog) (k:=.i64) (eO.scopeS t0) UG f29 f30,s33,s34,c45,e8];refine cD ?_
   try simp only [cM,iT]
   cases j4;simp only [Pu] at h;cases h;exact jS
  ·refine bP ?_
   try simp only [aK,bU]
   refine lP ?_;refine ⟨c5,JO _,(i64.wrap (v3 - 1)),j4,?_⟩;simp only [go_sem,seval,s12,e8]
 ·refine jJ ?_
  try simp only [dB,cP,↓reduceIte,aK]
  cases j4;simp only [xdn] at h;refine bL ?_;refine cD ?_;cases h;exact jS
instance:mN 128 (∀n,yE (lM n)):=⟨xC⟩
def CT (f:aE->aG->aJ->Int->Option (Int × aE × aG)):Prop:=∀a0 a1 a2 a3 r,f a0 a1 a2 a3=some r->∀(q:Pa) (m:M) (vs:List V) (P0:Pa) (F0 fp0 S0 C0:V),vs.map V.weak1=[.ptr P0 0,.agg ((aJ.C a2)),.li a3]/\m.blk P0=some (qU F0 fp0 S0 C0 a0 a1)/\eO F0 fp0 S0 C0 m.hp a0->SC prog 89 vs q m (λv Y=>∃(S:V) (h:Hp) (vr:Nat->Nat),v=.li r.1/\Y=m.ck P0 (qU F0 fp0 S C0 r.2.1 r.2.2) h vr/\eO F0 fp0 S C0 h r.2.1)
theorem iG (n:Nat):CT (eM n):=by
 rintro a0 a1 a2 a3 r h q m vs P0 F0 fp0 S0 C0 ⟨hv,w0,t0⟩;refine SC.wv hv ?_;refine SC.ap w0 λu0 l0=>?_
 try simp only [go_sem] at w0 l0
 refine sS func89 call89 ntmps89 results89 ?_;unfold eM at h;refine bL ?_;refine aO ?_;obtain ⟨x2,h4,h⟩:=aF h;obtain ⟨x3,h5,h⟩:=aF h;refine dD λ_ z=>?_;simp only [go_sem,seval];refine SC.bA (xC n a0 a1 a2.gP _ h4 _ _ _ P0 F0 fp0 S0 C0) ?_;simp only [go_sem,seval];refine SC.bA (bG a0 a1 (decide (x2<0)) 131 a3 _ h5 _ _ _ P0 F0 fp0 S0 C0) ?_;simp only [go_sem,seval];apply z;refine aO ?_;obtain ⟨x6,h13,h⟩:=aF h;obtain ⟨f10,f11,f12⟩:=bI h13;obtain ⟨g7,d7,z7,k7⟩:=eO.foc t0 f12;obtain ⟨p7,s14,s15,s16,s17,s18,s19,s20⟩:=k7.rows;have s21:=(eO.funcsR t0);have s8:=eO.fpEq t0 f10;have s22:eO F0 (.pp (rA F0) (a0.f_.toNat*6)) S0 C0 m.hp a0:=by rw [←s8];exact t0
 have s23:=(iC.shC k7.vars);obtain ⟨x9,h24,h⟩:=aF h;refine dD λ_ z=>?_;simp only [go_sem,seval,s18,k7.hF,s8,s23.al];refine SC.bA (bG a0 x3 (decide ((x6.aR.length:Int)<250)) 136 a3 _ h24 _ _ _ P0 F0 fp0 S0 C0) ?_;simp only [go_sem,seval,s8];apply z;refine aO (bL ?_);refine dI h (λc25 h=>?_) (λc25 h=>?_)
 ·refine bL ?_;refine cD ?_
  try simp only [cM]
  cases h;refine ⟨by simp,?_⟩;simp only [go_sem,seval,s8];refine ⟨S0,_,_,Fr.to (q:=q) (p:=P0) ?_ u0 (by simp only [go_sem,seval]),?_⟩
  ·simp only [go_sem]
  ·simp only [go_sem,s22]
 ·refine bP ?_
  refine yV ?_;simp only [go_sem,seval,s18,k7.hF,s23.al,c25];refine aO ?_;obtain ⟨f29,h⟩:=bY h;refine vG λf30=>?_;have f26:m.hp (49::q)=none:=by have:=f30 49 (by omega);simpa only [go_sem,seval,t0,c25] using this
  have k27:eO F0 fp0 S0 C0 (lE (HR m.hp g7 (49::q) ((x6.aR.map aJ.C).flatten++[.ls a2.gP,.li a2.bK,.li a2.qZ])) (rA F0) (z7.set (a0.f_.toNat*6+4) (.vec (49::q) 3 (x6.aR.length+1)))) ({ a0 with p_:=⟨(a0.p_.aV.set a0.f_.toNat { x6 with aR:=(x6.aR++[a2]) })⟩ }:aE):=JK.appVars k7 f26 a2 rfl rfl rfl rfl;have k28:eO F0 (.pp (rA F0) (a0.f_.toNat*6)) S0 C0 (lE (HR m.hp g7 (49::q) ((x6.aR.map aJ.C).flatten++[.ls a2.gP,.li a2.bK,.li a2.qZ])) (rA F0) (z7.set (a0.f_.toNat*6+4) (.vec (49::q) 3 (x6.aR.length+1)))) ({ a0 with p_:=⟨(a0.p_.aV.set a0.f_.toNat { x6 with aR:=(x6.aR++[a2]) })⟩ }:aE):=by rw [←s8];exact k27
  refine dZ λ_ z=>?_;simp only [go_sem,seval,rP u0,s18,k7.hF];refine EO (sz:=3) (rows:=(x6.aR.map aJ.C)) (by (try simp only [go_sem]);have hR:=k7.vars;exact hR) Kv zc47 by47 (by decide) (by decide) rfl (by simp only [go_sem,seval]) (by simp only [go_sem,seval]) (by first | omega | (simp only [Hh,pX,sY];omega)) ?_;simp only [go_sem,seval,HO,List.flatten_nil,gG,JK.apF k7 f26,k7.len4];apply z;refine aO ?_;have s34:=(eO.scopeS k27);obtain ⟨f35,h⟩:=bY h;refine vG λf36=>?_;have f31:(lE (HR m.hp g7 (49::q) ((x6.aR.map aJ.C).flatten++[.ls a2.gP,.li a2.bK,.li a2.qZ])) (rA F0) (z7.set (a0.f_.toNat*6+4) (.vec (49::q) 3 (x6.aR.length+1)))) (60::q)=none:=by have:=f36 60 (by omega);simpa only [go_sem,seval,t0,c25,k27,k28] using this
  have k32:eO F0 fp0 (.vec (60::q) 1 (a0.bB.length+1)) C0 (HR (lE (HR m.hp g7 (49::q) ((x6.aR.map aJ.C).flatten++[.ls a2.gP,.li a2.bK,.li a2.qZ])) (rA F0) (z7.set (a0.f_.toNat*6+4) (.vec (49::q) 3 (x6.aR.length+1)))) S0 (60::q) ((a0.bB.map (cI .i64)).flatten++[.li (x6.aR.length:Int)])) ({ a0 with p_:=⟨(a0.p_.aV.set a0.f_.toNat { x6 with aR:=(x6.aR++[a2]) })⟩,bB:=(a0.bB++[(x6.aR.length:Int)]) }:aE):=eO.appS k27 f31 (x6.aR.length:Int) rfl rfl rfl rfl;have k33:eO F0 (.pp (rA F0) (a0.f_.toNat*6)) (.vec (60::q) 1 (a0.bB.length+1)) C0 (HR (lE (HR m.hp g7 (49::q) ((x6.aR.map aJ.C).flatten++[.ls a2.gP,.li a2.bK,.li a2.qZ])) (rA F0) (z7.set (a0.f_.toNat*6+4) (.vec (49::q) 3 (x6.aR.length+1)))) S0 (60::q) ((a0.bB.map (cI .i64)).flatten++[.li (x6.aR.length:Int)])) ({ a0 with p_:=⟨(a0.p_.aV.set a0.f_.toNat { x6 with aR:=(x6.aR++[a2]) })⟩,bB:=(a0.bB++[(x6.aR.length:Int)]) }:aE):=by rw [←s8];exact k32
  refine dD λ_ z=>?_;simp only [go_sem,seval,s34.al];refine EO (sz:=1) (rows:=(a0.bB.map (cI .i64))) (by (try simp only [go_sem]);have hR:=(eO.scopeR k27);exact hR) UG zc3 by3 (by decide) (by decide) rfl (by simp only [go_sem]) (by simp only [go_sem,seval]) (by first | omega | (simp only [Hh,pX,sY];omega)) ?_;simp only [go_sem,seval,HO,List.flatten_nil];apply z;refine bL ?_;refine cD ?_;cases h;refine ⟨by simp,?_⟩;simp only [go_sem,seval,s8];refine ⟨(.vec (60::q) 1 (a0.bB.length+1)),_,_,Fr.to (q:=q) (p:=P0) ?_ u0 (by simp only [go_sem,seval]),?_⟩
  ·simp only [go_sem]
  ·simp only [go_sem,k33]
def DO (f:aE->aG->(List aB)->Option (aE × aG)):Prop:=∀a0 a1 a2 r,f a0 a1 a2=some r->∀(q:Pa) (m:M) (vs:List V) (P0:Pa) (F0 fp0 S0 C0:V),vs.map V.weak1=[.ptr P0 0,.list .none (a2.map aB.C)]/\m.blk P0=some (qU F0 fp0 S0 C0 a0 a1)/\eO F0 fp0 S0 C0 m.hp a0->SC prog 57 vs q m (λv Y=>∃(S:V) (h:Hp) (vr:Nat->Nat),v=.tup []/\Y=m.ck P0 (qU F0 fp0 S C0 r.1 r.2) h vr/\eO F0 fp0 S C0 h r.1)
theorem CJ (n:Nat):DO (rE n):=by
 rintro a0 a1 a2 r h q m vs P0 F0 fp0 S0 C0 ⟨hv,w0,t0⟩;refine SC.wv hv ?_;refine SC.ap w0 λu0 l0=>?_
 try simp only [go_sem] at w0 l0
 refine sS func57 call57 ntmps57 results57 ?_;unfold rE at h;refine aO (bL ?_);refine cU ?_;obtain ⟨y5,j5,h⟩:=aF h;refine tQ (λc X Y=>∃v2 v3 v4 S_v3,jW n a2 c v2 v3 v4=some y5/\X 0=.ptr P0 0/\X 7=.list .none (a2.map aB.C)/\X 8=.li (a2.length:Int)/\X 9=.li v2/\Y.blk P0=some (qU F0 fp0 S_v3 C0 v3 v4)/\eO F0 fp0 S_v3 C0 Y.hp v3/\Y.gl=m.gl/\Fr q P0 m Y) n ⟨0,a0,a1,S0,j5,?_⟩ ?_
 ·simp only [go_sem,seval,t0,w0]
 rintro i1 c6 E7 m8 ⟨v2,v3,v4,S_v3,j5,e9⟩ _
 rcases c6 with _ | c6
 ·cases j5
 rw [jW] at j5;have bv3:eO F0 fp0 S_v3 C0 m8.hp v3:=by simp only [e9]
 refine bL ?_;refine aO (dI j5 (λc10 j5=>?_) (λc10 j5=>?_))
 ·refine bP ?_
  refine aO ?_;obtain ⟨y11,j11,j5⟩:=aF j5;refine tK 42 (λX Y=>∃(S_y11_1:V),X 0=.ptr P0 0/\X 7=.list .none (a2.map aB.C)/\X 8=.li (a2.length:Int)/\X 9=.li v2/\Y.blk P0=some (qU F0 fp0 S_y11_1 C0 y11.1 y11.2)/\eO F0 fp0 S_y11_1 C0 Y.hp y11.1/\Y.gl=m.gl/\Fr q P0 m Y) ?_ ?_
  ·refine cU (aO ?_);obtain ⟨x12,h17,j11⟩:=aF j11;obtain ⟨f14,f15,f16⟩:=bI h17;refine lP ?_;refine bL ?_;refine aO (aO ?_);obtain ⟨y19,j19,j11⟩:=aF j11;refine tK 22 (λX Y=>X 0=.ptr P0 0/\X 5=.ptr (3::i1::3::q) 0/\X 6=.ptr (11::i1::3::q) 0/\X 7=.list .none (a2.map aB.C)/\X 8=.li (a2.length:Int)/\X 9=.li v2/\X 27=.lb y19/\Y.blk P0=some (qU F0 fp0 S_v3 C0 v3 v4)/\eO F0 fp0 S_v3 C0 Y.hp v3/\Y.blk (3::i1::3::q)=some ((aB.C x12))/\Y.blk (11::i1::3::q)=some ((aJ.C (aJ.mk x12.cZ (i64.wrap x12.jO) 0)))/\Y.gl=m.gl/\Fr q P0 m Y/\Y.hp=m8.hp) ?_ ?_
   ·rcases jR j19 with ⟨c20,j19⟩ | ⟨c20,j19⟩
    ·refine dD λ_ z=>?_;simp only [go_sem,seval,c20];apply z;cases j19;exact jD
    ·refine dD λ_ z=>?_;simp only [go_sem,seval,c20];apply z;cases j19;exact jD
   ·intro E21 m22 e23 _;refine dI j11 (λc24 j11=>?_) (λc24 j11=>?_)
    ·refine aO ?_;obtain ⟨x25,h29,j11⟩:=aF j11;obtain ⟨f26,f27,f28⟩:=bI h29;have f30:x12.aL[0]? = some x25:=f28;refine lP ?_;obtain ⟨x31,h33,j11⟩:=aF j11;obtain ⟨x32,h34,j11⟩:=aF j11;refine dZ λ_ z=>?_;simp only [go_sem,seval,e23];refine SC.bA (GH (i64.wrap x25.jO) _ h33 _ _ _) ?_;simp only [go_sem,seval,e23];refine SC.bA (bG v3 v4 x31 136 x12.fM _ h34 _ _ _ P0 F0 fp0 S_v3 C0) ?_;simp only [go_sem,seval];apply z;simp only [aK];obtain ⟨x35,h36,j11⟩:=aF j11;refine cX λ_ z=>?_;simp only [go_sem,seval,pU u0,e23];refine SC.mono (iG n v3 x32 (aJ.mk x12.cZ (i64.wrap x12.jO) (i64.wrap x25.jO)) x12.fM _ h36 _ _ _ P0 F0 fp0 S_v3 C0 (by simp only [go_sem,seval,bv3,e23])) ?_;rintro _ _ ⟨S_x35,h_x35,vr_x35,rfl,rfl,hk_x35⟩;simp only [go_sem,seval];apply z;simp only [aK,bU];cases j11;refine ⟨by decide,S_x35,?_⟩;simp only [go_sem,seval,hk_x35,e23]
    ·refine bP ?_
     try simp only [aK]
     obtain ⟨x37,h38,j11⟩:=aF j11;refine cX λ_ z=>?_;simp only [go_sem,seval,e23];refine SC.mono (iG n v3 v4 (aJ.mk x12.cZ (i64.wrap x12.jO) 0) x12.fM _ h38 _ _ _ P0 F0 fp0 S_v3 C0 (by simp only [go_sem,bv3,e23])) ?_;rintro _ _ ⟨S_x37,h_x37,vr_x37,rfl,rfl,hk_x37⟩;simp only [go_sem,seval];apply z;simp only [aK,bU];cases j11;refine ⟨by decide,S_x37,?_⟩;simp only [go_sem,seval,hk_x37,e23]
  ·rintro E39 m40 ⟨S_y11_1,e41⟩ _;simp only [aK];have hk_y11_1:eO F0 fp0 S_y11_1 C0 m40.hp y11.1:=by simp only [e41]
   refine lP ?_;refine ⟨c6,JO _,(i64.wrap (v2+1)),y11.1,y11.2,S_y11_1,j5,?_⟩;simp only [go_sem,seval,hk_y11_1,e41]
 ·refine jJ ?_
  try simp only [dB,cP,↓reduceIte,aK]
  cases j5;obtain ⟨x42,h50,h⟩:=aF h;obtain ⟨f47,f48,f49⟩:=bI h50;obtain ⟨g43,d43,z43,k43⟩:=eO.foc bv3 f49;obtain ⟨p43,s51,s52,s53,s54,s55,s56,s57⟩:=k43.rows;have s58:=(eO.funcsR bv3);have s44:=eO.fpEq bv3 f47;have s59:eO F0 (.pp (rA F0) (v3.f_.toNat*6)) S_v3 C0 m8.hp v3:=by rw [←s44];exact bv3
  have s60:=(iC.shC k43.vars);have k45:eO F0 fp0 S_v3 C0 (lE m8.hp (rA F0) (z43.set (v3.f_.toNat*6+3) (.li (x42.aR.length:Int)))) ({ v3 with p_:=⟨(v3.p_.aV.set v3.f_.toNat { x42 with aT:=(x42.aR.length:Int) })⟩ }:aE):=JK.setParams k43 rfl rfl rfl rfl;have k46:eO F0 (.pp (rA F0) (v3.f_.toNat*6)) S_v3 C0 (lE m8.hp (rA F0) (z43.set (v3.f_.toNat*6+3) (.li (x42.aR.length:Int)))) ({ v3 with p_:=⟨(v3.p_.aV.set v3.f_.toNat { x42 with aT:=(x42.aR.length:Int) })⟩ }:aE):=by rw [←s44];exact k45
  refine dZ λ_ z=>?_;simp only [go_sem,seval,c10,s55,k43.hF,s44,s60.al,k43.len3,e9];apply z;simp only [];cases h;refine ⟨by simp,?_⟩;simp only [go_sem,gG,s44];refine ⟨S_v3,_,_,Fr.to (q:=q) (p:=P0) ?_ u0 (by simp only [go_sem,s44,e9]),?_⟩
  ·simp only [go_sem,e9]
  ·simp only [go_sem,k46]
def Ft (f:aE->aG->Int->aB->Option (aE × aG)):Prop:=∀a0 a1 a2 a3 r,f a0 a1 a2 a3=some r->∀(q:Pa) (m:M) (vs:List V) (P0:Pa) (F0 fp0 S0 C0:V),vs.map V.weak1=[.ptr P0 0,.li a2,.agg ((aB.C a3))]/\m.blk P0=some (qU F0 fp0 S0 C0 a0 a1)/\eO F0 fp0 S0 C0 m.hp a0->SC prog 27 vs q m (λv Y=>∃(fp S:V) (h:Hp) (vr:Nat->Nat),v=.tup []/\Y=m.ck P0 (qU F0 fp S C0 r.1 r.2) h vr/\eO F0 fp S C0 h r.1)
theorem Et (n:Nat):Ft (lL n):=by
 rintro a0 a1 a2 a3 r h q m vs P0 F0 fp0 S0 C0 ⟨hv,w0,t0⟩;refine SC.wv hv ?_;refine SC.ap w0 λu0 l0=>?_
 try simp only [go_sem] at w0 l0
 refine sS func27 call27 ntmps27 results27 ?_;unfold lL at h;refine bL ?_;refine aO ?_;obtain ⟨x2,h3,h⟩:=aF h;refine dD λ_ z=>?_;simp only [go_sem,seval];refine SC.mono (vT n a0 a1 a2 _ h3 _ _ _ P0 F0 fp0 S0 C0 (by simp only [go_sem,seval,rP u0,t0,w0])) ?_;rintro _ _ ⟨fp_x2,S_x2,h_x2,vr_x2,rfl,rfl,hk_x2⟩;simp only [go_sem,seval];apply z;refine aO ?_;obtain ⟨⟨f5,f6⟩,h⟩:=bY h;obtain ⟨x4,h7,h⟩:=aF h;refine dD λ_ z=>?_;simp only [go_sem,seval,rP u0,f5,f6];refine SC.mono (CJ n x2.1 x2.2 (a3.aL.take (max (i64.wrap ((a3.aL.length:Int) - 1)) 0).toNat) _ h7 _ _ _ P0 F0 fp_x2 S_x2 C0 (by simp only [go_sem,seval,hk_x2])) ?_;rintro _ _ ⟨S_x4,h_x4,vr_x4,rfl,rfl,hk_x4⟩;simp only [go_sem,seval];apply z;refine bL ?_;refine dI h (λc8 h=>?_) (λc8 h=>?_)
 ·obtain ⟨y9,j9,h⟩:=aF h;refine tK 41 (λX Y=>Y.blk P0=some (qU F0 fp_x2 S_x4 C0 x4.1 y9)/\eO F0 fp_x2 S_x4 C0 Y.hp x4.1/\Y.gl=m.gl/\Fr q P0 m Y/\Y.hp=h_x4) ?_ ?_
  ·obtain ⟨x10,h16,j9⟩:=aF j9;obtain ⟨f13,f14,f15⟩:=bI h16;obtain ⟨g11,d11,z11,k11⟩:=eO.foc hk_x4 f15;obtain ⟨p11,s17,s18,s19,s20,s21,s22,s23⟩:=k11.rows;have s24:=(eO.funcsR hk_x4);have s12:=eO.fpEq hk_x4 f13;have s25:eO F0 (.pp (rA F0) (x4.1.f_.toNat*6)) S_x4 C0 h_x4 x4.1:=by rw [←s12];exact hk_x4
   rcases jR j9 with ⟨c26,j9⟩ | ⟨c26,j9⟩
   ·obtain ⟨x27,h28,j9⟩:=aF j9;refine dZ λ_ z=>?_;simp only [go_sem,seval,rP u0,c8,s18,k11.hF,s12,c26];refine SC.bA (bG x4.1 x4.2 true 136 a3.fM _ h28 _ _ _ P0 F0 fp_x2 S_x4 C0) ?_;simp only [go_sem,seval,s12];apply z;simp only [aK];cases j9;exact jD
   ·have s31:=(iC.shC k11.vars);have f32:(6<=p11.length+1+1+1+1+1+1)=True:=eq_true (by omega);obtain ⟨x29,h33,j9⟩:=aF j9;obtain ⟨x30,h34,j9⟩:=aF j9;refine dZ λ_ z=>?_;simp only [go_sem,seval,rP u0,c8,s17,s18,s23,k11.hF,s12,c26,s31.al,f32];refine SC.by_ (GL n x10 _ h33 _ _ _ g11 d11 (by simp only [go_sem,s23,s31.al,k11.vars])) ?_;simp only [go_sem,seval,rP u0];refine SC.bA (bG x4.1 x4.2 (decide (x29<=4)) 136 a3.fM _ h34 _ _ _ P0 F0 fp_x2 S_x4 C0) ?_;simp only [go_sem,seval,s12];apply z;simp only [aK];cases j9;exact jD
  ·intro E35 m36 e37 _;simp only [];cases h;refine ⟨by simp,?_⟩;simp only [go_sem];refine ⟨fp_x2,S_x4,_,_,Fr.to (q:=q) (p:=P0) ?_ u0 (by simp only [go_sem,e37]),?_⟩
   ·simp only [go_sem,e37]
   ·simp only [go_sem,hk_x4,e37]
 ·refine bP ?_;cases h;refine ⟨by simp,?_⟩;simp only [go_sem,c8];refine ⟨fp_x2,S_x4,_,_,Fr.to (q:=q) (p:=P0) ?_ u0 (by simp only [go_sem,seval]),?_⟩
  ·simp only [go_sem]
  ·simp only [go_sem,hk_x4]
def yD (f:aE->aG->Int->Option Int):Prop:=∀a0 a1 a2 r,f a0 a1 a2=some r->∀(q:Pa) (m:M) (vs:List V) (P0:Pa) (F0 fp0 S0 C0:V),vs.map V.weak1=[.ptr P0 0,.li a2]/\m.blk P0=some (qU F0 fp0 S0 C0 a0 a1)/\eO F0 fp0 S0 C0 m.hp a0->SC prog 163 vs q m (λv Y=>v=.li r/\Y=m)
theorem jL:yD (fF):=by
 rintro a0 a1 a2 r h q m vs P0 F0 fp0 S0 C0 ⟨hv,w0,t0⟩;refine SC.wv hv ?_;refine SC.apart w0 λu0=>?_
 try simp only [go_sem] at w0
 refine sS func163 call163 ntmps163 results163 ?_;unfold fF at h;refine bL ?_;refine aO (bL ?_);refine dI h (λc1 h=>?_) (λc1 h=>?_)
 ·refine bL ?_;refine cD ?_
  try simp only [cM]
  cases h;exact jS
 ·refine bP ?_
  refine aO ?_;obtain ⟨x2,h9,h⟩:=aF h;obtain ⟨f6,f7,f8⟩:=bI h9;obtain ⟨g3,d3,z3,k3⟩:=eO.foc t0 f8;obtain ⟨p3,s10,s11,s12,s13,s14,s15,s16⟩:=k3.rows;have s17:=(eO.funcsR t0);have s4:=eO.fpEq t0 f6;have s18:eO F0 (.pp (rA F0) (a0.f_.toNat*6)) S0 C0 m.hp a0:=by rw [←s4];exact t0
  have s19:=(iC.shC k3.vars);obtain ⟨x5,h23,h⟩:=aF h;obtain ⟨f20,f21,f22⟩:=bI h23;obtain ⟨H28,rs_H28,s24,s25,s26,s27⟩:=iC.readVar k3.vars f22;refine dD λ_ z=>?_;simp only [go_sem,seval,c1,s14,k3.hF,s4,uM.ix (P:=prog) (k:=.i64) (iC.shC k3.vars) Kv f20 f21,s24,s26,w0];apply z;refine cD ?_;cases h;exact jS
instance:mN 163 (yD fF):=⟨jL⟩
def yC (f:aE->aG->aB->Option (Int × aG)):Prop:=∀a0 a1 a2 r,f a0 a1 a2=some r->∀(q:Pa) (m:M) (vs:List V) (P0:Pa) (F0 fp0 S0 C0:V),vs.map V.weak1=[.ptr P0 0,.agg ((aB.C a2))]/\m.blk P0=some (qU F0 fp0 S0 C0 a0 a1)/\eO F0 fp0 S0 C0 m.hp a0->SC prog 165 vs q m (λv Y=>v=.li r.1/\Y=(m.set P0 (qU F0 fp0 S0 C0 a0 r.2)))
theorem qQ (n:Nat):yC (gZ n):=λa0 a1 a2 r h q m vs P0 F0 fp0 S0 C0 ⟨hv,w0,t0⟩=>SC.wva hv (SC.ac w0 λ_ _ _=>cY func165 call165 ntmps165 results165 rfl (wk .z q m (gZ.eq_1 _ _ _ _) h))
instance:mN 165 (∀n,yC (gZ n)):=⟨qQ⟩
def GK (f:Int->Int->Option Int):Prop:=∀a0 a1 r,f a0 a1=some r->AQ prog 190 [.li a0,.li a1] (.li r)
theorem JH:GK (tY):=λa0 a1 r h q m vs hv=>SC.wva hv (cY func190 call190 ntmps190 results190 rfl (wk (.j 2 1 13 [.v 5 Bool λy=>.lb y] [0,1] [] [] none .z (.c .z (.j 2 3 28 [.v 18 Bool λy=>.lb y] [] [] [] none .z .z))) q m (tY.eq_1 _ _) h))
instance:mN 190 (GK tY):=⟨JH⟩
def xA (f:aE->aG->aD->Int->Option (aD × aG)):Prop:=∀a0 a1 a2 a3 r,f a0 a1 a2 a3=some r->∀(q:Pa) (m:M) (vs:List V) (P0:Pa) (F0 fp0 S0 C0:V),vs.map V.weak1=[.ptr P0 0,.agg ((aD.C a2)),.li a3]/\m.blk P0=some (qU F0 fp0 S0 C0 a0 a1)/\eO F0 fp0 S0 C0 m.hp a0->SC prog 191 vs q m (λv Y=>v=.agg ((aD.C r.1))/\Y=(m.set P0 (qU F0 fp0 S0 C0 a0 r.2)))
theorem DL:xA (cE):=λa0 a1 a2 a3 r h q m vs P0 F0 fp0 S0 C0 ⟨hv,w0,t0⟩=>SC.wva hv (SC.ac w0 λ_ _ _=>cY func191 call191 ntmps191 results191 rfl (wk .z q m (cE.eq_1 _ _ _ _) h))
instance:mN 191 (xA cE):=⟨DL⟩
def xB (f:aE->aG->aD->aD->aD->Option (aD × aG)):Prop:=∀a0 a1 a2 a3 a4 r,f a0 a1 a2 a3 a4=some r->∀(q:Pa) (m:M) (vs:List V) (P0:Pa) (F0 fp0 S0 C0:V),vs.map V.weak1=[.ptr P0 0,.agg ((aD.C a2)),.agg ((aD.C a3)),.agg ((aD.C a4))]/\m.blk P0=some (qU F0 fp0 S0 C0 a0 a1)/\eO F0 fp0 S0 C0 m.hp a0->SC prog 192 vs q m (λv Y=>v=.agg ((aD.C r.1))/\Y=(m.set P0 (qU F0 fp0 S0 C0 a0 r.2)))
theorem DM:xB (iJ):=λa0 a1 a2 a3 a4 r h q m vs P0 F0 fp0 S0 C0 ⟨hv,w0,t0⟩=>SC.wva hv (SC.ac w0 λ_ _ _=>cY func192 call192 ntmps192 results192 rfl (wk (.c (.j 2 3 26 [.b 0 aG λy=>qU F0 fp0 S0 C0 a0 y] [0,5,6,8] [5,6,8] [] none .z .z) .z) q m (iJ.eq_1 _ _ _ _ _) h))
instance:mN 192 (xB iJ):=⟨DM⟩
def GI (f:Int->Option Int):Prop:=∀a0 r,f a0=some r->AQ prog 161 [.li a0] (.li r)
theorem FM:GI (tW):=λa0 r h q m vs hv=>SC.wva hv (cY func161 call161 ntmps161 results161 rfl (wk .z q m (tW.eq_1 _) h))
instance:mN 161 (GI tW):=⟨FM⟩
def GJ (f:Int->Option Bool):Prop:=∀a0 r,f a0=some r->AQ prog 194 [.li a0] (.lb r)
theorem JE:GJ (rK):=λa0 r h q m vs hv=>SC.wva hv (cY func194 call194 ntmps194 results194 rfl (wk (.j 2 1 8 [.v 2 Bool λy=>.lb y] [] [] [] none .z .z) q m (rK.eq_1 _) h))
instance:mN 194 (GJ rK):=⟨JE⟩
def vU (f:aE->aG->aD->Option Int):Prop:=∀a0 a1 a2 r,f a0 a1 a2=some r->∀(q:Pa) (m:M) (vs:List V) (P0:Pa) (F0 fp0 S0 C0:V),vs.map V.weak1=[.ptr P0 0,.agg ((aD.C a2))]/\m.blk P0=some (qU F0 fp0 S0 C0 a0 a1)/\eO F0 fp0 S0 C0 m.hp a0->SC prog 193 vs q m (λv Y=>v=.li r/\Y=m)
theorem CU:vU (lV):=λa0 a1 a2 r h q m vs P0 F0 fp0 S0 C0 ⟨hv,w0,t0⟩=>SC.wva hv (SC.ac w0 λ_ _ _=>cY func193 call193 ntmps193 results193 rfl (wk (.j 2 2 25 [.v 27 Bool λy=>.lb y] [0,5] [0] [] none .z .z) q m (lV.eq_1 _ _ _) h))
instance:mN 193 (vU lV):=⟨CU⟩
def jY (f:aE->aG->aB->Option (aD × aG)):Prop:=∀a0 a1 a2 r,f a0 a1 a2=some r->∀(q:Pa) (m:M) (vs:List V) (P0:Pa) (F0 fp0 S0 C0:V),vs.map V.weak1=[.ptr P0 0,.agg ((aB.C a2))]/\m.blk P0=some (qU F0 fp0 S0 C0 a0 a1)/\eO F0 fp0 S0 C0 m.hp a0/\m.gl 0=.eptr [(cA bC.C cK)] 0 0->SC prog 159 vs q m (λv Y=>v=.agg ((aD.C r.1))/\Y=(m.set P0 (qU F0 fp0 S0 C0 a0 r.2)))
def rG (f:aE->aG->aB->aD->Option (aD × aG)):Prop:=∀a0 a1 a2 a3 r,f a0 a1 a2 a3=some r->∀(q:Pa) (m:M) (vs:List V) (P0:Pa) (F0 fp0 S0 C0:V),vs.map V.weak1=[.ptr P0 0,.agg ((aB.C a2)),.agg ((aD.C a3))]/\m.blk P0=some (qU F0 fp0 S0 C0 a0 a1)/\eO F0 fp0 S0 C0 m.hp a0/\m.gl 0=.eptr [(cA bC.C cK)] 0 0->SC prog 178 vs q m (λv Y=>v=.agg ((aD.C r.1))/\Y=(m.set P0 (qU F0 fp0 S0 C0 a0 r.2)))
def qP (f:aE->aG->aB->aD->Option (aD × aG)):Prop:=∀a0 a1 a2 a3 r,f a0 a1 a2 a3=some r->∀(q:Pa) (m:M) (vs:List V) (P0:Pa) (F0 fp0 S0 C0:V),vs.map V.weak1=[.ptr P0 0,.agg ((aB.C a2)),.agg ((aD.C a3))]/\m.blk P0=some (qU F0 fp0 S0 C0 a0 a1)/\eO F0 fp0 S0 C0 m.hp a0/\m.gl 0=.eptr [(cA bC.C cK)] 0 0->SC prog 179 vs q m (λv Y=>v=.agg ((aD.C r.1))/\Y=(m.set P0 (qU F0 fp0 S0 C0 a0 r.2)))
def pV (f:aE->aG->aB->aD->Option (aD × aG)):Prop:=∀a0 a1 a2 a3 r,f a0 a1 a2 a3=some r->∀(q:Pa) (m:M) (vs:List V) (P0:Pa) (F0 fp0 S0 C0:V),vs.map V.weak1=[.ptr P0 0,.agg ((aB.C a2)),.agg ((aD.C a3))]/\m.blk P0=some (qU F0 fp0 S0 C0 a0 a1)/\eO F0 fp0 S0 C0 m.hp a0/\m.gl 0=.eptr [(cA bC.C cK)] 0 0->SC prog 180 vs q m (λv Y=>v=.agg ((aD.C r.1))/\Y=(m.set P0 (qU F0 fp0 S0 C0 a0 r.2)))
def oX (f:aE->aG->aB->aD->Option (aD × aG)):Prop:=∀a0 a1 a2 a3 r,f a0 a1 a2 a3=some r->∀(q:Pa) (m:M) (vs:List V) (P0:Pa) (F0 fp0 S0 C0:V),vs.map V.weak1=[.ptr P0 0,.agg ((aB.C a2)),.agg ((aD.C a3))]/\m.blk P0=some (qU F0 fp0 S0 C0 a0 a1)/\eO F0 fp0 S0 C0 m.hp a0/\m.gl 0=.eptr [(cA bC.C cK)] 0 0->SC prog 181 vs q m (λv Y=>v=.agg ((aD.C r.1))/\Y=(m.set P0 (qU F0 fp0 S0 C0 a0 r.2)))
def jH (f:aE->aG->(List aB)->Option ((List aD) × aG)):Prop:=∀a0 a1 a2 r,f a0 a1 a2=some r->∀(q:Pa) (m:M) (vs:List V) (P0:Pa) (F0 fp0 S0 C0:V),vs.map V.weak1=[.ptr P0 0,.list .none (a2.map aB.C)]/\m.blk P0=some (qU F0 fp0 S0 C0 a0 a1)/\eO F0 fp0 S0 C0 m.hp a0/\m.gl 0=.eptr [(cA bC.C cK)] 0 0->SC prog 189 vs q m (λv Y=>v=.list .none (r.1.map aD.C)/\Y=(m.set P0 (qU F0 fp0 S0 C0 a0 r.2)))
theorem CS {mO} (Db:rG mO) {lZ} (Cj:qP lZ) {lD} (Bu:pV lD) {kQ} (AY:oX kQ) (n:Nat):jY (oJ mO lZ lD kQ n):=haveI:mN 178 (rG mO):=⟨Db⟩;haveI:mN 179 (qP lZ):=⟨Cj⟩;haveI:mN 180 (pV lD):=⟨Bu⟩;haveI:mN 181 (oX kQ):=⟨AY⟩;λa0 a1 a2 r h q m vs P0 F0 fp0 S0 C0 ⟨hv,w0,t0,_⟩=>SC.wva hv (SC.ac w0 λ_ _ _=>cY func159 call159 ntmps159 results159 rfl (wk .z q m (oJ.eq_1 _ _ _ _ _ _ _ _) h))
theorem CQ {dF} (sI:jY dF) (n:Nat):rG (oI dF n):=by
 rintro a0 a1 a2 a3 r h q m vs P0 F0 fp0 S0 C0 ⟨hv,w0,t0,hg0⟩;refine SC.wv hv ?_;refine SC.ap w0 λu0 l0=>?_
 try simp only [go_sem] at w0 l0
 refine sS func178 call178 ntmps178 results178 ?_;unfold oI at h;refine bL ?_;refine aO ?_;obtain ⟨x4,h10,h⟩:=aF h;obtain ⟨f7,f8,f9⟩:=bI h10;have f11:a2.aL[0]? = some x4:=f9;obtain ⟨x5,h12,h⟩:=aF h;refine dD λ_ z=>?_;simp only [go_sem,seval,f7,f8,f11];refine SC.bA (sI a0 a1 x4 _ h12 _ _ _ P0 F0 fp0 S0 C0) ?_;simp only [go_sem,seval];apply z;refine aO ?_;obtain ⟨x13,h14,h⟩:=aF h;refine dD λ_ z=>?_;simp only [go_sem,seval,rP u0];refine SC.bA (qQ n a0 x5.2 a2 _ h14 _ _ _ P0 F0 fp0 S0 C0) ?_;simp only [go_sem,seval,rP u0];apply z;refine aO ?_;obtain ⟨x15,h17,h⟩:=aF h;obtain ⟨x16,h18,h⟩:=aF h;refine dZ λ_ z=>?_;simp only [go_sem,seval,rP u0];refine SC.bA (jL a0 x13.2 x13.1 _ h17 _ _ _ P0 F0 fp0 S0 C0) ?_;simp only [go_sem,seval,rP u0];refine SC.bA (bG a0 x13.2 (x15 == 4) 132 a2.fM _ h18 _ _ _ P0 F0 fp0 S0 C0) ?_;simp only [go_sem,seval];apply z;refine aO ?_;obtain ⟨x19,h20,h⟩:=aF h;refine dD λ_ z=>?_;simp only [go_sem,seval,rP u0];refine SC.bA (bG a0 x16 (x5.1.cJ == 1) 133 x5.1.fM _ h20 _ _ _ P0 F0 fp0 S0 C0) ?_;simp only [go_sem,seval];apply z;refine aO (aO ?_);obtain ⟨y21,j21,h⟩:=aF h;refine tK 46 (λX Y=>X 0=.ptr P0 0/\X 5=.ptr (1::q) 0/\X 6=.ptr (2::q) 0/\X 7=.ptr (9::q) 0/\X 45=.lb y21/\Y.blk P0=some (qU F0 fp0 S0 C0 a0 x19)/\Y.blk (1::q)=some ((aD.C ({ a3 with dR:=([105,110,100,101,120]:bW),cJ:=2,eB:=x13.1 }:aD)))/\Y.blk (2::q)=some ([.ls [],.li 0,.lw 0,.li 0,.list .self ([].map aD.C),.li 0])/\Y.blk (9::q)=some ((aD.C x5.1))/\Y.gl=m.gl/\Y.hp=m.hp/\m.back q Y=(m.set P0 (qU F0 fp0 S0 C0 a0 x19))) ?_ ?_
 ·rcases jR j21 with ⟨c22,j21⟩ | ⟨c22,j21⟩
  ·refine lP ?_;cases j21;exact jD
  ·refine dD λ_ z=>?_;simp only [go_sem,seval,c22];apply z;cases j21;exact jD
 ·intro E23 m24 e25 _;refine dI h (λc26 h=>?_) (λc26 h=>?_)
  ·obtain ⟨x27,h35,h⟩:=aF h;obtain ⟨f32,f33,f34⟩:=bI h35;obtain ⟨g28,d28,z28,k28⟩:=eO.foc t0 f34;obtain ⟨p28,s36,s37,s38,s39,s40,s41,s42⟩:=k28.rows;have s43:=(eO.funcsR t0);have s29:=eO.fpEq t0 f32;have s44:eO F0 (.pp (rA F0) (a0.f_.toNat*6)) S0 C0 m.hp a0:=by rw [←s29];exact t0
   have s45:=(iC.shC k28.vars);obtain ⟨x30,h49,h⟩:=aF h;obtain ⟨f46,f47,f48⟩:=bI h49;obtain ⟨H54,rs_H54,s50,s51,s52,s53⟩:=iC.readVar k28.vars f48;obtain ⟨x31,h55,h⟩:=aF h;refine dZ λ_ z=>?_;simp only [go_sem,seval,s40,k28.hF,s29,uM.ix (P:=prog) (k:=.i64) (iC.shC k28.vars) Kv f46 f47,s50,s53,e25];refine SC.bA (bG a0 x19 (decide ((i64.wrap x5.1.N_)<x30.qZ)) 137 x5.1.fM _ h55 _ _ _ P0 F0 fp0 S0 C0) ?_;simp only [go_sem,seval,s29];apply z;refine bL ?_;refine bL ?_;refine cD ?_;cases h;exact jS
  ·refine bP ?_
   refine bL ?_;refine bL ?_;refine cD ?_;cases h;exact jS
theorem BU {cN} (mV:jH cN) (n:Nat):qP (nJ cN n):=haveI:mN 189 (jH cN):=⟨mV⟩;λa0 a1 a2 a3 r h q m vs P0 F0 fp0 S0 C0 ⟨hv,w0,t0,_⟩=>SC.wva hv (SC.ac w0 λ_ _ _=>cY func179 call179 ntmps179 results179 rfl (wk .z q m (nJ.eq_1 _ _ _ _ _ _) h))
theorem Bp {cN} (mV:jH cN) (n:Nat):pV (mT cN n):=haveI:mN 189 (jH cN):=⟨mV⟩;λa0 a1 a2 a3 r h q m vs P0 F0 fp0 S0 C0 ⟨hv,w0,t0,_⟩=>SC.wva hv (SC.ac w0 λ_ _ _=>cY func180 call180 ntmps180 results180 rfl (wk .z q m (mT.eq_1 _ _ _ _ _ _) h))
theorem AX {cN} (mV:jH cN) (n:Nat):oX (mA cN n):=haveI:mN 189 (jH cN):=⟨mV⟩;λa0 a1 a2 a3 r h q m vs P0 F0 fp0 S0 C0 ⟨hv,w0,t0,_⟩=>SC.wva hv (SC.ac w0 λ_ _ _=>cY func181 call181 ntmps181 results181 rfl (wk (.c .z (.c .z (.c .z (.c (.j 2 15 65 [.b 0 aG λy=>qU F0 fp0 S0 C0 a0 y] [0,5,6] [5,6] [] none .z .z) .z)))) q m (mA.eq_1 _ _ _ _ _ _) h))
theorem DV {dF} (sI:jY dF) (n:Nat):jH (pG dF n):=haveI:mN 159 (jY dF):=⟨sI⟩;λa0 a1 a2 r h q m vs P0 F0 fp0 S0 C0 ⟨hv,w0,t0,_⟩=>SC.wva hv (SC.ac w0 λ_ _ _=>cY func189 call189 ntmps189 results189 rfl (wk (.s 5 (.l [.o 5 (List aD) λy=>(y.map aD.C),.v 10 Int λy=>.li y,.b 0 aG λy=>qU F0 fp0 S0 C0 a0 y] [0,8,9] [] [] none .z .z)) q m (pG.eq_1 _ _ _ _ _) h))
theorem uS:∀n,jY (hY n)/\rG (Gs n)/\qP (FO n)/\pV (Fw n)/\oX (Ey n)/\jH (Hl n)
 | 0=>⟨λ_ _ _ _ h=>dH h,λ_ _ _ _ _ h=>dH h,λ_ _ _ _ _ h=>dH h,λ_ _ _ _ _ h=>dH h,λ_ _ _ _ _ h=>dH h,λ_ _ _ _ h=>dH h⟩
 | n+1=>
   have ih:=uS n
   ⟨CS ih.2.1 ih.2.2.1 ih.2.2.2.1 ih.2.2.2.2.1 n,CQ ih.1 n,BU ih.2.2.2.2.2 n,Bp ih.2.2.2.2.2 n,AX ih.2.2.2.2.2 n,DV ih.1 n⟩
theorem nL (n:Nat):jY (hY n):=(uS n).1
instance:mN 159 (∀n,jY (hY n)):=⟨nL⟩
def vS (f:aE->aG->aB->Option (aD × aG)):Prop:=∀a0 a1 a2 r,f a0 a1 a2=some r->∀(q:Pa) (m:M) (vs:List V) (P0:Pa) (F0 fp0 S0 C0:V),vs.map V.weak1=[.ptr P0 0,.agg ((aB.C a2))]/\m.blk P0=some (qU F0 fp0 S0 C0 a0 a1)/\eO F0 fp0 S0 C0 m.hp a0/\m.gl 0=.eptr [(cA bC.C cK)] 0 0->SC prog 129 vs q m (λv Y=>v=.agg ((aD.C r.1))/\Y=(m.set P0 (qU F0 fp0 S0 C0 a0 r.2)))
theorem jV (n:Nat):vS (eV n):=λa0 a1 a2 r h q m vs P0 F0 fp0 S0 C0 ⟨hv,w0,t0,_⟩=>SC.wva hv (SC.ac w0 λ_ _ _=>cY func129 call129 ntmps129 results129 rfl (wk .z q m (eV.eq_1 _ _ _ _) h))
instance:mN 129 (∀n,vS (eV n)):=⟨jV⟩
def BW (f:aE->aG->aB->Option (Int × aG)):Prop:=∀a0 a1 a2 r,f a0 a1 a2=some r->∀(q:Pa) (m:M) (vs:List V) (P0:Pa) (F0 fp0 S0 C0:V),vs.map V.weak1=[.ptr P0 0,.agg ((aB.C a2))]/\m.blk P0=some (qU F0 fp0 S0 C0 a0 a1)/\eO F0 fp0 S0 C0 m.hp a0->SC prog 167 vs q m (λv Y=>v=.li r.1/\Y=(m.set P0 (qU F0 fp0 S0 C0 a0 r.2)))
theorem Bo (n:Nat):BW (mS n):=by
 rintro a0 a1 a2 r h q m vs P0 F0 fp0 S0 C0 ⟨hv,w0,t0⟩;refine SC.wv hv ?_;refine SC.ap w0 λu0 l0=>?_
 try simp only [go_sem] at w0 l0
 refine sS func167 call167 ntmps167 results167 ?_;unfold mS at h;refine bL ?_;refine aO ?_;have s3:=(eO.funcsR t0);obtain ⟨x2,h4,h⟩:=aF h;refine dZ λ_ z=>?_;simp only [go_sem,seval,rP u0,s3.al,w0];refine SC.by_ (yR n a0.p_ a2.cZ _ h4 _ _ _ F0 fp0 S0 C0 a0 (by simp only [go_sem,t0,s3.al])) ?_;simp only [go_sem,seval];apply z;refine aO ?_;obtain ⟨x5,h6,h⟩:=aF h;refine dD λ_ z=>?_;simp only [go_sem,seval];refine SC.bA (bG a0 a1 x2.2 130 a2.fM _ h6 _ _ _ P0 F0 fp0 S0 C0) ?_;simp only [go_sem,seval];apply z;refine bL ?_;refine cD ?_;cases h;exact jS
def DN (f:aE->aG->Int->Option (List aJ)):Prop:=∀a0 a1 a2 r,f a0 a1 a2=some r->∀(q:Pa) (m:M) (vs:List V) (P0:Pa) (F0 fp0 S0 C0:V),vs.map V.weak1=[.ptr P0 0,.li a2]/\m.blk P0=some (qU F0 fp0 S0 C0 a0 a1)/\eO F0 fp0 S0 C0 m.hp a0->SC prog 168 vs q m (λv Y=>∃lv,v=lv/\iC m.hp lv 3 (r.map aJ.C)/\Y=m)
theorem CH:DN (oG):=by
 rintro a0 a1 a2 r h q m vs P0 F0 fp0 S0 C0 ⟨hv,w0,t0⟩;refine SC.wv hv ?_;refine SC.apart w0 λu0=>?_
 try simp only [go_sem] at w0
 refine sS func168 call168 ntmps168 results168 ?_;unfold oG at h;refine bL ?_;refine aO ?_;have s5:=(eO.funcsR t0);obtain ⟨x1,h9,h⟩:=aF h;obtain ⟨f6,f7,f8⟩:=bI h9;obtain ⟨g2,d2,z2,k2⟩:=eO.foc t0 f8;obtain ⟨p2,s10,s11,s12,s13,s14,s15,s16⟩:=k2.rows;have s17:=(iC.shC k2.vars);obtain ⟨⟨f3',f4'⟩,h⟩:=bY h;have f3:0<=x1.aT:=f3';have f4:x1.aT<=(x1.aR.length:Int):=f4';have s18:uM (AK g2 (x1.aT.toNat)) 3 (x1.aR.take (x1.aT.toNat)).length:=uM.cutL (iC.shC k2.vars) f4;refine dZ λ_ z=>?_;simp only [go_sem,seval,s5.al,uM.ix (P:=prog) (k:=.i64) (eO.funcsR t0) Oa f6 f7,s13,s14,k2.hF,uM.slHi (P:=prog) (k:=.i64) (iC.shC k2.vars) Kv f3 f4,w0];apply z;refine cD ?_;cases h;refine ⟨by simp,?_⟩;simp only [go_sem,seval,bV];refine ⟨(AK g2 (x1.aT.toNat)),uM.wk (uM.cutL (iC.shC k2.vars) f4),?_⟩;have hR:=(iC.cutC k2.vars f4);simpa only [go_sem,seval] using hR
def Iq (f:Int->Int->Option Bool):Prop:=∀a0 a1 r,f a0 a1=some r->AQ prog 164 [.li a0,.li a1] (.lb r)
theorem Aq:Iq (tZ):=λa0 a1 r h q m vs hv=>SC.wva hv (cY func164 call164 ntmps164 results164 rfl (wk (.j 2 1 13 [.v 4 Bool λy=>.lb y] [] [] [] none .z .z) q m (tZ.eq_1 _ _) h))
instance:mN 164 (Iq tZ):=⟨Aq⟩
def xD (f:aE->aG->aB->Int->Option (aD × aG)):Prop:=∀a0 a1 a2 a3 r,f a0 a1 a2 a3=some r->∀(q:Pa) (m:M) (vs:List V) (P0:Pa) (F0 fp0 S0 C0:V),vs.map V.weak1=[.ptr P0 0,.agg ((aB.C a2)),.li a3]/\m.blk P0=some (qU F0 fp0 S0 C0 a0 a1)/\eO F0 fp0 S0 C0 m.hp a0->SC prog 182 vs q m (λv Y=>v=.agg ((aD.C r.1))/\Y=(m.set P0 (qU F0 fp0 S0 C0 a0 r.2)))
theorem DU (n:Nat):xD (mM n):=by
 rintro a0 a1 a2 a3 r h q m vs P0 F0 fp0 S0 C0 ⟨hv,w0,t0⟩;refine SC.wv hv ?_;refine SC.ap w0 λu0 l0=>?_
 try simp only [go_sem] at w0 l0
 refine sS func182 call182 ntmps182 results182 ?_;unfold mM at h;refine bL ?_;refine aO ?_;obtain ⟨x3,h4,h⟩:=aF h;refine dD λ_ z=>?_;simp only [go_sem,seval];refine SC.bA (bG a0 a1 (a2.bK == 15) 132 a2.fM _ h4 _ _ _ P0 F0 fp0 S0 C0) ?_;simp only [go_sem,seval];apply z;refine aO ?_;obtain ⟨x5,h6,h⟩:=aF h;refine dD λ_ z=>?_;simp only [go_sem,seval,rP u0];refine SC.bA (qQ n a0 x3 a2 _ h6 _ _ _ P0 F0 fp0 S0 C0) ?_;simp only [go_sem,seval];apply z;refine aO ?_;obtain ⟨y7,j7,h⟩:=aF h;refine tK 37 (λX Y=>X 4=.ptr (0::q) 0/\X 6=.ptr (1::q) 0/\X 7=.li x5.1/\Y.blk P0=some (qU F0 fp0 S0 C0 a0 y7)/\Y.blk (0::q)=some ((aB.C a2))/\Y.blk (1::q)=some ([.ls [],.li 0,.lw 0,.li 0,.list .self ([].map aD.C),.li 0])/\Y.gl=m.gl/\Y.hp=m.hp/\m.back q Y=(m.set P0 (qU F0 fp0 S0 C0 a0 y7))) ?_ ?_
 ·obtain ⟨x8,h9,j7⟩:=aF j7
  rcases jR j7 with ⟨c10,j7⟩ | ⟨c10,j7⟩
  ·obtain ⟨x11,h19,j7⟩:=aF j7;obtain ⟨f16,f17,f18⟩:=bI h19;obtain ⟨g12,d12,z12,k12⟩:=eO.foc t0 f18;obtain ⟨p12,s20,s21,s22,s23,s24,s25,s26⟩:=k12.rows;have s27:=(eO.funcsR t0);have s13:=eO.fpEq t0 f16;have s28:eO F0 (.pp (rA F0) (a0.f_.toNat*6)) S0 C0 m.hp a0:=by rw [←s13];exact t0
   have s29:=(iC.shC k12.vars);obtain ⟨x14,h33,j7⟩:=aF j7;obtain ⟨f30,f31,f32⟩:=bI h33;obtain ⟨H38,rs_H38,s34,s35,s36,s37⟩:=iC.readVar k12.vars f32;obtain ⟨x15,h39,j7⟩:=aF j7;refine dZ λ_ z=>?_;simp only [go_sem,seval,rP u0,s13];refine SC.bA (jL a0 x5.2 x5.1 _ h9 _ _ _ P0 F0 fp0 S0 C0) ?_;simp only [go_sem,seval,rP u0,c10,s24,k12.hF,uM.ix (P:=prog) (k:=.i64) (iC.shC k12.vars) Kv f30 f31,s34,s37];refine SC.bA (bG a0 x5.2 (x14.qZ == a3) 132 a2.fM _ h39 _ _ _ P0 F0 fp0 S0 C0) ?_;simp only [go_sem,seval,s13];apply z;simp only [aK];cases j7;exact jD
  ·obtain ⟨x40,h41,j7⟩:=aF j7;refine dZ λ_ z=>?_;simp only [go_sem,seval,rP u0];refine SC.bA (jL a0 x5.2 x5.1 _ h9 _ _ _ P0 F0 fp0 S0 C0) ?_;simp only [go_sem,seval,rP u0,c10];refine SC.bA (bG a0 x5.2 false 132 a2.fM _ h41 _ _ _ P0 F0 fp0 S0 C0) ?_;simp only [go_sem,seval];apply z;simp only [aK];cases j7;exact jD
 ·intro E42 m43 e44 _;refine bL ?_;refine cD ?_;cases h;exact jS
instance:mN 182 (∀n,xD (mM n)):=⟨DU⟩
def BZ (f:aE->aG->aB->aJ->Option (aD × aG)):Prop:=∀a0 a1 a2 a3 r,f a0 a1 a2 a3=some r->∀(q:Pa) (m:M) (vs:List V) (P0:Pa) (F0 fp0 S0 C0:V),vs.map V.weak1=[.ptr P0 0,.agg ((aB.C a2)),.agg ((aJ.C a3))]/\m.blk P0=some (qU F0 fp0 S0 C0 a0 a1)/\eO F0 fp0 S0 C0 m.hp a0/\m.gl 0=.eptr [(cA bC.C cK)] 0 0->SC prog 169 vs q m (λv Y=>v=.agg ((aD.C r.1))/\Y=(m.set P0 (qU F0 fp0 S0 C0 a0 r.2)))
theorem Bq (n:Nat):BZ (mU n):=λa0 a1 a2 a3 r h q m vs P0 F0 fp0 S0 C0 ⟨hv,w0,t0,_⟩=>SC.wva hv (SC.ac w0 λ_ _ _=>cY func169 call169 ntmps169 results169 rfl (wk .z q m (mU.eq_1 _ _ _ _ _) h))
def Fu (f:aE->aG->aB->aA->Int->Option (aA × aE × aG)):Prop:=∀a0 a1 a2 a3 a4 r,f a0 a1 a2 a3 a4=some r->∀(q:Pa) (m:M) (vs:List V) (P0:Pa) (F0 fp0 S0 C0:V),vs.map V.weak1=[.ptr P0 0,.agg ((aB.C a2)),.agg ([.ls a3.dR,.li a3.eB,.li a3.iH,.nilv,.list .none (a3.bH.map aA.C),.list .none (a3.eN.map aA.C),.li a3.fM]),.li a4]/\m.blk P0=some (qU F0 fp0 S0 C0 a0 a1)/\eO F0 fp0 S0 C0 m.hp a0/\m.gl 0=.eptr [(cA bC.C cK)] 0 0->SC prog 133 vs q m (λv Y=>∃(h:Hp) (vr:Nat->Nat),v=.agg ((aA.C r.1))/\Y=m.ck P0 (qU F0 fp0 S0 C0 r.2.1 r.2.2) h vr/\eO F0 fp0 S0 C0 h r.2.1)
theorem qR (n:Nat):Fu (jU n):=by
 rintro a0 a1 a2 a3 a4 r h q m vs P0 F0 fp0 S0 C0 ⟨hv,w0,t0,hg0⟩;refine SC.wv hv ?_;refine SC.ap w0 λu0 l0=>?_
 try simp only [go_sem] at w0 l0
 refine sS func133 call133 ntmps133 results133 ?_;unfold jU at h;refine bL ?_;refine aO ?_;obtain ⟨x4,h5,h⟩:=aF h;refine dD λ_ z=>?_;simp only [go_sem,seval];refine SC.bA (Bo n a0 a1 a2 _ h5 _ _ _ P0 F0 fp0 S0 C0) ?_;simp only [go_sem,seval,pU u0];apply z;refine aO (bL ?_);refine dI h (λc6 h=>?_) (λc6 h=>?_)
 ·refine bL ?_;refine cD ?_
  try simp only [cM]
  cases h;refine ⟨by simp,?_⟩;simp only [go_sem,seval];refine ⟨_,_,Fr.to (q:=q) (p:=P0) ?_ u0 (by simp only [go_sem,seval,pU u0]),?_⟩
  ·simp only [go_sem]
  ·simp only [go_sem,t0]
 ·refine bP ?_
  refine aO ?_;have s11:=(eO.callsS t0);obtain ⟨x7,h15,h⟩:=aF h;obtain ⟨f12,f13,f14⟩:=bI h15;obtain ⟨cv_k8,HC_k8,k8⟩:=eO.focC t0 f14;obtain ⟨p8,s16⟩:=k8.row;have s17:=(iC.shC k8.cell);obtain ⟨f18,h⟩:=bY h;refine vG λf19=>?_;have f9:m.hp (39::q)=none:=by have:=f19 39 (by omega);simpa only [go_sem,seval,t0,c6] using this
  have k10:eO F0 fp0 S0 C0 (lE (HR m.hp cv_k8 (39::q) ((x7.map (cI .i64)).flatten++[.li x4.1])) (rA C0) (HC_k8.set a0.gC.toNat (.vec (39::q) 1 (x7.length+1)))) ({ a0 with bX:=(a0.bX.set a0.gC.toNat (x7++[x4.1])) }:aE):=NA.app k8 f9 x4.1 rfl rfl rfl rfl;refine dZ λ_ z=>?_;simp only [go_sem,seval,pU u0,c6,s11.al,uM.ix (P:=prog) (k:=.i64) (eO.callsS t0) sz34 f12 f13,s16,k8.hC];refine EO (sz:=1) (rows:=(x7.map (cI .i64))) (by (try simp only [go_sem]);have hR:=k8.cell;exact hR) UG zc3 by3 (by decide) (by decide) rfl (by simp only [go_sem]) (by simp only [go_sem,seval]) (by first | omega | (simp only [Hh,pX,sY];omega)) ?_;simp only [go_sem,seval,HO,List.flatten_nil,gG,pU u0,s11.al,uM.ix (P:=prog) (k:=.i64) (eO.callsS t0) sz34 f12 f13,NA.apF k8 f9,k8.len];apply z;refine aO ?_;obtain ⟨x20,h21,h⟩:=aF h;refine dD λ_ z=>?_;simp only [go_sem,seval];refine SC.mono (CH ({ a0 with bX:=(a0.bX.set a0.gC.toNat (x7++[x4.1])) }:aE) x4.2 x4.1 _ h21 _ _ _ P0 F0 fp0 S0 C0 (by simp only [go_sem,seval,pU u0,k10])) ?_;rintro v_x20 _ ⟨lv_x20,hl_x20,rl_x20,rfl⟩;rw [hl_x20]
  try simp only [go_sem] at rl_x20
  have rs_x20:=iC.shC rl_x20;simp only [go_sem,seval];apply z;refine aO ?_;obtain ⟨x22,h23,h⟩:=aF h;refine dD λ_ z=>?_;simp only [go_sem,seval,pU u0,rs_x20.al];refine SC.bA (bG ({ a0 with bX:=(a0.bX.set a0.gC.toNat (x7++[x4.1])) }:aE) x4.2 ((a2.aL.length:Int) == (x20.length:Int)) 136 a2.fM _ h23 _ _ _ P0 F0 fp0 S0 C0) ?_;simp only [go_sem,seval];apply z;refine aO (bL ?_);refine cU ?_;obtain ⟨y28,j28,h⟩:=aF h;refine tQ (λc X Y=>∃v25 v26 v27,kZ n a2 x20 a0 x7 x4 c v25 v26 v27=some y28/\X 0=.ptr P0 0/\X 6=.ptr (1::q) 0/\X 8=.ptr (2::q) 0/\X 9=lv_x20/\X 63=.list .none (a2.aL.map aB.C)/\X 64=.li (a2.aL.length:Int)/\X 65=.li v25/\Y.blk P0=some (qU F0 fp0 S0 C0 ({ a0 with bX:=(a0.bX.set a0.gC.toNat (x7++[x4.1])) }:aE) v26)/\eO F0 fp0 S0 C0 Y.hp ({ a0 with bX:=(a0.bX.set a0.gC.toNat (x7++[x4.1])) }:aE)/\Y.blk (1::q)=some ([.ls v27.dR,.li v27.eB,.li v27.iH,.list .self (v27.aL.map aD.C),.list .none (v27.bH.map aA.C),.list .none (v27.eN.map aA.C),.li v27.fM])/\Y.blk (2::q)=some ([.ls [],.li 0,.li 0,.list .self ([].map aD.C),.list .self ([].map aA.C),.list .self ([].map aA.C),.li 0])/\Y.gl=m.gl/\Fr q P0 m Y/\Y.hp=(lE (HR m.hp cv_k8 (39::q) ((x7.map (cI .i64)).flatten++[.li x4.1])) (rA C0) (HC_k8.set a0.gC.toNat (.vec (39::q) 1 (x7.length+1))))) n ⟨0,x22,({ a3 with dR:=([99,97,108,108]:bW),eB:=a4,iH:=x4.1,aL:=[] }:aA),j28,?_⟩ ?_
  ·simp only [go_sem,seval,pU u0,k10]
  rintro i24 c29 E30 m31 ⟨v25,v26,v27,j28,e32⟩ _
  rcases c29 with _ | c29
  ·cases j28
  rw [kZ] at j28;refine bL ?_;refine aO (dI j28 (λc33 j28=>?_) (λc33 j28=>?_))
  ·refine bP ?_
   refine aO (cU (aO ?_));obtain ⟨x34,h39,j28⟩:=aF j28;obtain ⟨f36,f37,f38⟩:=bI h39;refine lP ?_;refine aO (bL ?_);refine dI j28 (λc40 j28=>?_) (λc40 j28=>?_)
   ·refine jJ ?_
    try simp only [seval,dB,cP,aK]
    cases j28;refine bL ?_;refine cD ?_;cases h;refine ⟨by simp,?_⟩;simp only [go_sem,seval,e32];refine ⟨_,_,Fr.to (q:=q) (p:=P0) ?_ u0 (by simp only [go_sem,seval,pU u0,e32]),?_⟩
    ·simp only [go_sem,e32]
    ·simp only [go_sem,k10,e32]
   ·refine bP ?_
    try simp only [aK]
    obtain ⟨x41,h46,j28⟩:=aF j28;obtain ⟨f43,f44,f45⟩:=bI h46;obtain ⟨H51,rs_H51,s47,s48,s49,s50⟩:=iC.readVar rl_x20 f45;obtain ⟨x42,h52,j28⟩:=aF j28;obtain ⟨f53,j28⟩:=bY j28;have f54:v27.aL.length+1<=1073741824:=by first | omega | (simp only [mX,pX,sY] at f53 ⊢;omega)
    have f55:v27.aL.length<=1073741823:=by first | omega | (simp only [mX,pX,sY] at f53 ⊢;omega)
    refine dZ λ_ z=>?_;simp only [go_sem,seval,c40,uM.ix (P:=prog) (k:=.i64) (iC.shC rl_x20) Kv f43 f44,s47,s48,e32];refine SC.bA (Bq n ({ a0 with bX:=(a0.bX.set a0.gC.toNat (x7++[x4.1])) }:aE) v26 x34 x41 _ h52 _ _ _ P0 F0 fp0 S0 C0) ?_;simp only [go_sem,seval,pU u0,f54,e32];apply z;simp only [aK,bU];refine lP ?_;refine ⟨c29,JO _,(i64.wrap (v25+1)),x42.2,({ v27 with aL:=(v27.aL++[x42.1]) }:aA),j28,?_⟩;simp only [go_sem,seval,fG u0,pU u0,k10,e32]
  ·refine jJ ?_
   try simp only [dB,cP,↓reduceIte,aK]
   cases j28;refine bL ?_;refine cD ?_;cases h;refine ⟨by simp,?_⟩;simp only [go_sem,seval,e32];refine ⟨_,_,Fr.to (q:=q) (p:=P0) ?_ u0 (by simp only [go_sem,seval,pU u0,e32]),?_⟩
   ·simp only [go_sem,e32]
   ·simp only [go_sem,k10,e32]
def DS (f:aE->aG->aB->Option Bool):Prop:=∀a0 a1 a2 r,f a0 a1 a2=some r->∀(q:Pa) (m:M) (vs:List V) (P0:Pa) (F0 fp0 S0 C0:V),vs.map V.weak1=[.ptr P0 0,.agg ((aB.C a2))]/\m.blk P0=some (qU F0 fp0 S0 C0 a0 a1)/\eO F0 fp0 S0 C0 m.hp a0/\m.gl 0=.eptr [(cA bC.C cK)] 0 0->SC prog 160 vs q m (λv Y=>v=.lb r/\Y=m)
theorem sF (n:Nat):DS (jZ n):=λa0 a1 a2 r h q m vs P0 F0 fp0 S0 C0 ⟨hv,w0,t0,_⟩=>SC.wva hv (SC.ac w0 λ_ _ _=>cY func160 call160 ntmps160 results160 rfl (wk (.j 2 1 12 [.v 4 Bool λy=>.lb y] [0] [0] [] none .z .z) q m (jZ.eq_1 _ _ _ _) h))
def Eu (f:aE->aG->aB->aA->Option (aA × aE × aG)):Prop:=∀a0 a1 a2 a3 r,f a0 a1 a2 a3=some r->∀(q:Pa) (m:M) (vs:List V) (P0:Pa) (F0 fp0 S0 C0:V),vs.map V.weak1=[.ptr P0 0,.agg ((aB.C a2)),.agg ([.ls a3.dR,.li a3.eB,.li a3.iH,.nilv,.list .none (a3.bH.map aA.C),.list .none (a3.eN.map aA.C),.li a3.fM])]/\m.blk P0=some (qU F0 fp0 S0 C0 a0 a1)/\eO F0 fp0 S0 C0 m.hp a0/\m.gl 0=.eptr [(cA bC.C cK)] 0 0->SC prog 130 vs q m (λv Y=>∃(S:V) (h:Hp) (vr:Nat->Nat),v=.agg ((aA.C r.1))/\Y=m.ck P0 (qU F0 fp0 S C0 r.2.1 r.2.2) h vr/\eO F0 fp0 S C0 h r.2.1)
theorem DR (n:Nat):Eu (pF n):=by
 rintro a0 a1 a2 a3 r h q m vs P0 F0 fp0 S0 C0 ⟨hv,w0,t0,hg0⟩;refine SC.wv hv ?_;refine SC.ap w0 λu0 l0=>?_
 try simp only [go_sem] at w0 l0
 refine sS func130 call130 ntmps130 results130 ?_;unfold pF at h;refine bL ?_;refine wF (id:=(1::q)) (off:=3) (cs:=[.ls a3.dR,.li a3.eB,.li a3.iH,.list .self ([].map aD.C),.list .none (a3.bH.map aA.C),.list .none (a3.eN.map aA.C),.li a3.fM]) (by simp only [go_sem,seval]) rfl ?_;refine aO (aO ?_);obtain ⟨x4,h9,h⟩:=aF h;obtain ⟨f6,f7,f8⟩:=bI h9;have f10:a2.aL[0]? = some x4:=f8;obtain ⟨x5,h11,h⟩:=aF h;refine dD λ_ z=>?_;simp only [go_sem,seval,f6,f7,f10];refine SC.bA (sF n a0 a1 x4 _ h11 _ _ _ P0 F0 fp0 S0 C0) ?_;simp only [go_sem,seval];apply z;refine dI h (λc12 h=>?_) (λc12 h=>?_)
 ·refine aO ?_;obtain ⟨x13,h14,h⟩:=aF h;refine dZ λ_ z=>?_;simp only [go_sem,seval,f6,f7,f10,c12];refine SC.mono (qR n a0 a1 x4 ({ a3 with aL:=[] }:aA) (-1:Int) _ h14 _ _ _ P0 F0 fp0 S0 C0 (by simp only [go_sem,seval,rP u0,t0,w0,hg0])) ?_;rintro _ _ ⟨h_x13,vr_x13,rfl,rfl,hk_x13⟩;simp only [go_sem,seval,rP u0];apply z;refine bL ?_;refine aO (bL ?_);refine dI h (λc15 h=>?_) (λc15 h=>?_)
  ·refine bL ?_;refine cD ?_
   try simp only [cM]
   cases h;refine ⟨by simp,?_⟩;simp only [go_sem,seval,rP u0];refine ⟨S0,_,_,Fr.to (q:=q) (p:=P0) ?_ u0 (by simp only [go_sem,seval,rP u0]),?_⟩
   ·simp only [go_sem]
   ·simp only [go_sem,hk_x13]
  ·refine bP ?_
   refine aO ?_;have s18:=(eO.funcsR hk_x13);obtain ⟨x16,h22,h⟩:=aF h;obtain ⟨f19,f20,f21⟩:=bI h22;obtain ⟨g17,d17,z17,k17⟩:=eO.foc hk_x13 f21;obtain ⟨p17,s23,s24,s25,s26,s27,s28,s29⟩:=k17.rows;refine dZ λ_ z=>?_;simp only [go_sem,seval,rP u0,c15,s18.al,uM.ix (P:=prog) (k:=.i64) (eO.funcsR hk_x13) Oa f19 f20,s25,k17.hF];apply z;refine aO ?_;obtain ⟨x30,h31,h⟩:=aF h;refine dD λ_ z=>?_;simp only [go_sem,seval,rP u0];refine SC.bA (bG x13.2.1 x13.2.2 (x16.bN != 0) 132 a2.fM _ h31 _ _ _ P0 F0 fp0 S0 C0) ?_;simp only [go_sem,seval];apply z;refine aO ?_;obtain ⟨x32,h33,h⟩:=aF h;refine dD λ_ z=>?_;simp only [go_sem,seval,rP u0];refine SC.mono (iG n x13.2.1 x30 (aJ.mk a2.cZ x16.bN 0) a2.fM _ h33 _ _ _ P0 F0 fp0 S0 C0 (by simp only [go_sem,seval,hk_x13])) ?_;rintro _ _ ⟨S_x32,h_x32,vr_x32,rfl,rfl,hk_x32⟩;simp only [go_sem,seval,rP u0];apply z;refine bL ?_;refine cD ?_
   try simp only [cM]
   cases h;refine ⟨by simp,?_⟩;simp only [go_sem,seval,rP u0];refine ⟨S_x32,_,_,Fr.to (q:=q) (p:=P0) ?_ u0 (by simp only [go_sem,seval,rP u0]),?_⟩
   ·simp only [go_sem]
   ·simp only [go_sem,hk_x32]
 ·refine bP ?_
  refine aO ?_;obtain ⟨x34,h36,h⟩:=aF h;refine dD λ_ z=>?_;simp only [go_sem,seval,f6,f7,f10,c12];refine SC.bA (nL n a0 a1 x4 _ h36 _ _ _ P0 F0 fp0 S0 C0) ?_;simp only [go_sem,seval];apply z;refine aO (dZ λ_ z=>?_);simp only [go_sem,seval,rP u0];apply z;refine aO ?_;obtain ⟨x37,h39,h⟩:=aF h;obtain ⟨x38,h40,h⟩:=aF h;refine dZ λ_ z=>?_;simp only [go_sem,seval,rP u0];refine SC.bA (FM x34.1.cJ _ h39 _ _ _) ?_;simp only [go_sem,seval,rP u0];refine SC.mono (iG n a0 x34.2 (aJ.mk a2.cZ x37 0) a2.fM _ h40 _ _ _ P0 F0 fp0 S0 C0 (by simp only [go_sem,seval,rP u0,t0])) ?_;rintro _ _ ⟨S_x38,h_x38,vr_x38,rfl,rfl,hk_x38⟩;simp only [go_sem,seval,rP u0];apply z;refine bL ?_;refine cD ?_;cases h;refine ⟨by simp,?_⟩;simp only [go_sem,seval,rP u0];refine ⟨S_x38,_,_,Fr.to (q:=q) (p:=P0) ?_ u0 (by simp only [go_sem,seval,rP u0]),?_⟩
  ·simp only [go_sem]
  ·simp only [go_sem,hk_x38]
def CK (f:aE->aG->aB->Option (Int × aG)):Prop:=∀a0 a1 a2 r,f a0 a1 a2=some r->∀(q:Pa) (m:M) (vs:List V) (P0:Pa) (F0 fp0 S0 C0:V),vs.map V.weak1=[.ptr P0 0,.agg ((aB.C a2))]/\m.blk P0=some (qU F0 fp0 S0 C0 a0 a1)/\eO F0 fp0 S0 C0 m.hp a0->SC prog 162 vs q m (λv Y=>v=.li r.1/\Y=(m.set P0 (qU F0 fp0 S0 C0 a0 r.2)))
theorem BV (n:Nat):CK (nK n):=λa0 a1 a2 r h q m vs P0 F0 fp0 S0 C0 ⟨hv,w0,t0⟩=>SC.wva hv (SC.ac w0 λ_ _ _=>cY func162 call162 ntmps162 results162 rfl (wk (.j 2 3 20 [.b 0 aG λy=>qU F0 fp0 S0 C0 a0 y] [0,5] [] [] none .z .z) q m (nK.eq_1 _ _ _ _) h))
def FP (f:aE->aG->aB->aA->Option (aA × aE × aG)):Prop:=∀a0 a1 a2 a3 r,f a0 a1 a2 a3=some r->∀(q:Pa) (m:M) (vs:List V) (P0:Pa) (F0 fp0 S0 C0:V),vs.map V.weak1=[.ptr P0 0,.agg ((aB.C a2)),.agg ([.ls a3.dR,.li a3.eB,.li a3.iH,.nilv,.list .none (a3.bH.map aA.C),.list .none (a3.eN.map aA.C),.li a3.fM])]/\m.blk P0=some (qU F0 fp0 S0 C0 a0 a1)/\eO F0 fp0 S0 C0 m.hp a0/\m.gl 0=.eptr [(cA bC.C cK)] 0 0->SC prog 131 vs q m (λv Y=>∃(h:Hp) (vr:Nat->Nat),v=.agg ((aA.C r.1))/\Y=m.ck P0 (qU F0 fp0 S0 C0 r.2.1 r.2.2) h vr/\eO F0 fp0 S0 C0 h r.2.1)
theorem Fq (n:Nat):FP (qV n):=by
 rintro a0 a1 a2 a3 r h q m vs P0 F0 fp0 S0 C0 ⟨hv,w0,t0,hg0⟩;refine SC.wv hv ?_;refine SC.ap w0 λu0 l0=>?_
 try simp only [go_sem] at w0 l0
 refine sS func131 call131 ntmps131 results131 ?_;unfold qV at h;refine bL ?_;refine wF (id:=(1::q)) (off:=3) (cs:=[.ls a3.dR,.li a3.eB,.li a3.iH,.list .self ([].map aD.C),.list .none (a3.bH.map aA.C),.list .none (a3.eN.map aA.C),.li a3.fM]) (by simp only [go_sem,seval]) rfl ?_;refine aO ?_;obtain ⟨x4,h5,h⟩:=aF h;refine dD λ_ z=>?_;simp only [go_sem,seval];refine SC.bA (BV n a0 a1 a2 _ h5 _ _ _ P0 F0 fp0 S0 C0) ?_;simp only [go_sem,seval];apply z;refine aO (aO ?_);obtain ⟨x6,h11,h⟩:=aF h;obtain ⟨f8,f9,f10⟩:=bI h11;have f12:a2.aL[0]? = some x6:=f10;obtain ⟨x7,h13,h⟩:=aF h;refine dD λ_ z=>?_;simp only [go_sem,seval,rP u0,f8,f9,f12];refine SC.bA (sF n a0 x4.2 x6 _ h13 _ _ _ P0 F0 fp0 S0 C0) ?_;simp only [go_sem,seval];apply z;refine dI h (λc14 h=>?_) (λc14 h=>?_)
 ·refine aO ?_;obtain ⟨x15,h16,h⟩:=aF h;refine dZ λ_ z=>?_;simp only [go_sem,seval,rP u0,f8,f9,f12,c14];refine SC.mono (qR n a0 x4.2 x6 ({ a3 with aL:=[] }:aA) x4.1 _ h16 _ _ _ P0 F0 fp0 S0 C0 (by simp only [go_sem,seval,t0,hg0])) ?_;rintro _ _ ⟨h_x15,vr_x15,rfl,rfl,hk_x15⟩;simp only [go_sem,seval,rP u0];apply z;refine bL ?_;refine aO (bL ?_);refine dI h (λc17 h=>?_) (λc17 h=>?_)
  ·obtain ⟨x18,h22,h⟩:=aF h;have s23:=(eO.funcsR hk_x15);obtain ⟨x19,h27,h⟩:=aF h;obtain ⟨f24,f25,f26⟩:=bI h27;obtain ⟨g20,d20,z20,k20⟩:=eO.foc hk_x15 f26;obtain ⟨p20,s28,s29,s30,s31,s32,s33,s34⟩:=k20.rows;obtain ⟨x21,h35,h⟩:=aF h;refine dZ λ_ z=>?_;simp only [go_sem,seval,rP u0,c17,s23.al,uM.ix (P:=prog) (k:=.i64) (eO.funcsR hk_x15) Oa f24 f25,s30,k20.hF];refine SC.bA (jL x15.2.1 x15.2.2 x4.1 _ h22 _ _ _ P0 F0 fp0 S0 C0) ?_;simp only [go_sem,seval,rP u0,s23.al,s30,k20.hF];refine SC.bA (bG x15.2.1 x15.2.2 (x19.bN == x18) 132 a2.fM _ h35 _ _ _ P0 F0 fp0 S0 C0) ?_;simp only [go_sem,seval];apply z;refine bL ?_;refine cD ?_
   try simp only [cM]
   cases h;refine ⟨by simp,?_⟩;simp only [go_sem,seval,rP u0];refine ⟨_,_,Fr.to (q:=q) (p:=P0) ?_ u0 (by simp only [go_sem,seval,rP u0]),?_⟩
   ·simp only [go_sem]
   ·simp only [go_sem,hk_x15]
  ·refine bP ?_
   refine bL ?_;refine cD ?_
   try simp only [cM]
   cases h;refine ⟨by simp,?_⟩;simp only [go_sem,seval,rP u0];refine ⟨_,_,Fr.to (q:=q) (p:=P0) ?_ u0 (by simp only [go_sem,seval,rP u0]),?_⟩
   ·simp only [go_sem]
   ·simp only [go_sem,hk_x15]
 ·refine bP ?_
  refine aO ?_;obtain ⟨x36,h38,h⟩:=aF h;refine dD λ_ z=>?_;simp only [go_sem,seval,rP u0,f8,f9,f12,c14];refine SC.bA (nL n a0 x4.2 x6 _ h38 _ _ _ P0 F0 fp0 S0 C0) ?_;simp only [go_sem,seval];apply z;refine aO (dZ λ_ z=>?_);simp only [go_sem,seval,rP u0];apply z;refine aO ?_;obtain ⟨x39,h42,h⟩:=aF h;obtain ⟨x40,h43,h⟩:=aF h;obtain ⟨x41,h44,h⟩:=aF h;refine dZ λ_ z=>?_;simp only [go_sem,seval,rP u0];refine SC.bA (jL a0 x36.2 x4.1 _ h42 _ _ _ P0 F0 fp0 S0 C0) ?_;simp only [go_sem,seval,rP u0];refine SC.bA (Aq x36.1.cJ x39 _ h43 _ _ _) ?_;simp only [go_sem,seval,rP u0];refine SC.bA (bG a0 x36.2 x40 132 a2.fM _ h44 _ _ _ P0 F0 fp0 S0 C0) ?_;simp only [go_sem,seval];apply z;refine bL ?_;refine cD ?_;cases h;refine ⟨by simp,?_⟩;simp only [go_sem,seval];refine ⟨_,_,Fr.to (q:=q) (p:=P0) ?_ u0 (by simp only [go_sem,seval,rP u0]),?_⟩
  ·simp only [go_sem]
  ·simp only [go_sem,t0]
def Es (f:aE->aG->aB->Int->Option (aD × aG)):Prop:=∀a0 a1 a2 a3 r,f a0 a1 a2 a3=some r->∀(q:Pa) (m:M) (vs:List V) (P0:Pa) (F0 fp0 S0 C0:V),vs.map V.weak1=[.ptr P0 0,.agg ((aB.C a2)),.li a3]/\m.blk P0=some (qU F0 fp0 S0 C0 a0 a1)/\eO F0 fp0 S0 C0 m.hp a0/\m.gl 0=.eptr [(cA bC.C cK)] 0 0->SC prog 166 vs q m (λv Y=>v=.agg ((aD.C r.1))/\Y=(m.set P0 (qU F0 fp0 S0 C0 a0 r.2)))
theorem DQ (n:Nat):Es (pE n):=by
 rintro a0 a1 a2 a3 r h q m vs P0 F0 fp0 S0 C0 ⟨hv,w0,t0,hg0⟩;refine SC.wv hv ?_;refine SC.ap w0 λu0 l0=>?_
 try simp only [go_sem] at w0 l0
 refine sS func166 call166 ntmps166 results166 ?_;unfold pE at h;refine bL ?_;refine aO ?_;obtain ⟨x3,h5,h⟩:=aF h;refine dD λ_ z=>?_;simp only [go_sem,seval];refine SC.bA (jV n a0 a1 a2 _ h5 _ _ _ P0 F0 fp0 S0 C0) ?_;simp only [go_sem,seval];apply z;refine aO (aO ?_);obtain ⟨y6,j6,h⟩:=aF h;refine tK 17 (λX Y=>X 0=.ptr P0 0/\X 2=.li a3/\X 4=.ptr (0::q) 0/\X 6=.ptr (1::q) 0/\X 7=.ptr (5::q) 0/\X 20=.lb y6/\Y.blk P0=some (qU F0 fp0 S0 C0 a0 x3.2)/\Y.blk (0::q)=some ((aB.C a2))/\Y.blk (1::q)=some ([.ls [],.li 0,.lw 0,.li 0,.list .self ([].map aD.C),.li 0])/\Y.blk (5::q)=some ((aD.C x3.1))/\Y.gl=m.gl/\Y.hp=m.hp/\m.back q Y=(m.set P0 (qU F0 fp0 S0 C0 a0 x3.2))) ?_ ?_
 ·rcases jR j6 with ⟨c7,j6⟩ | ⟨c7,j6⟩
  ·refine dD λ_ z=>?_;simp only [go_sem,seval,rP u0,c7];apply z;cases j6;exact jD
  ·refine dD λ_ z=>?_;simp only [go_sem,seval,rP u0,c7];apply z;cases j6;exact jD
 ·intro E8 m9 e10 _;refine dI h (λc11 h=>?_) (λc11 h=>?_)
  ·obtain ⟨x12,h20,h⟩:=aF h;obtain ⟨f17,f18,f19⟩:=bI h20;obtain ⟨g13,d13,z13,k13⟩:=eO.foc t0 f19;obtain ⟨p13,s21,s22,s23,s24,s25,s26,s27⟩:=k13.rows;have s28:=(eO.funcsR t0);have s14:=eO.fpEq t0 f17;have s29:eO F0 (.pp (rA F0) (a0.f_.toNat*6)) S0 C0 m.hp a0:=by rw [←s14];exact t0
   have s30:=(iC.shC k13.vars);obtain ⟨x15,h34,h⟩:=aF h;obtain ⟨f31,f32,f33⟩:=bI h34;obtain ⟨H39,rs_H39,s35,s36,s37,s38⟩:=iC.readVar k13.vars f33;obtain ⟨x16,h40,h⟩:=aF h;refine dZ λ_ z=>?_;simp only [go_sem,seval,s25,k13.hF,s14,uM.ix (P:=prog) (k:=.i64) (iC.shC k13.vars) Kv f31 f32,s35,s38,e10];refine SC.bA (bG a0 x3.2 (decide ((i64.wrap x3.1.N_)<x15.qZ)) 137 a2.fM _ h40 _ _ _ P0 F0 fp0 S0 C0) ?_;simp only [go_sem,seval,s14];apply z;refine bL ?_;refine cD ?_;cases h;exact jS
  ·refine bP ?_
   refine bL ?_;refine cD ?_;cases h;exact jS
def FQ (f:aE->aG->aB->aA->Option (aA × aG)):Prop:=∀a0 a1 a2 a3 r,f a0 a1 a2 a3=some r->∀(q:Pa) (m:M) (vs:List V) (P0:Pa) (F0 fp0 S0 C0:V),vs.map V.weak1=[.ptr P0 0,.agg ((aB.C a2)),.agg ([.ls a3.dR,.li a3.eB,.li a3.iH,.nilv,.list .none (a3.bH.map aA.C),.list .none (a3.eN.map aA.C),.li a3.fM])]/\m.blk P0=some (qU F0 fp0 S0 C0 a0 a1)/\eO F0 fp0 S0 C0 m.hp a0/\m.gl 0=.eptr [(cA bC.C cK)] 0 0->SC prog 132 vs q m (λv Y=>v=.agg ((aA.C r.1))/\Y=(m.set P0 (qU F0 fp0 S0 C0 a0 r.2)))
theorem Fs (n:Nat):FQ (qW n):=by
 rintro a0 a1 a2 a3 r h q m vs P0 F0 fp0 S0 C0 ⟨hv,w0,t0,hg0⟩;refine SC.wv hv ?_;refine SC.ap w0 λu0 l0=>?_
 try simp only [go_sem] at w0 l0
 refine sS func132 call132 ntmps132 results132 ?_;unfold qW at h;refine bL ?_;refine wF (id:=(1::q)) (off:=3) (cs:=[.ls a3.dR,.li a3.eB,.li a3.iH,.list .self ([].map aD.C),.list .none (a3.bH.map aA.C),.list .none (a3.eN.map aA.C),.li a3.fM]) (by simp only [go_sem,seval]) rfl ?_;refine aO ?_;obtain ⟨x4,h5,h⟩:=aF h;refine dD λ_ z=>?_;simp only [go_sem,seval];refine SC.bA (qQ n a0 a1 a2 _ h5 _ _ _ P0 F0 fp0 S0 C0) ?_;simp only [go_sem,seval];apply z;refine aO ?_;obtain ⟨x6,h8,h⟩:=aF h;obtain ⟨x7,h9,h⟩:=aF h;refine dZ λ_ z=>?_;simp only [go_sem,seval,rP u0];refine SC.bA (jL a0 x4.2 x4.1 _ h8 _ _ _ P0 F0 fp0 S0 C0) ?_;simp only [go_sem,seval,rP u0];refine SC.bA (bG a0 x4.2 (x6 == 4) 132 a2.fM _ h9 _ _ _ P0 F0 fp0 S0 C0) ?_;simp only [go_sem,seval];apply z;refine aO ?_;obtain ⟨x10,h16,h⟩:=aF h;obtain ⟨f13,f14,f15⟩:=bI h16;have f17:a2.aL[0]? = some x10:=f15;obtain ⟨x11,h18,h⟩:=aF h;refine dD λ_ z=>?_;simp only [go_sem,seval,rP u0,f13,f14,f17];refine SC.bA (DQ n a0 x7 x10 x4.1 _ h18 _ _ _ P0 F0 fp0 S0 C0) ?_;simp only [go_sem,seval];apply z;refine aO ?_;obtain ⟨x19,h25,h⟩:=aF h;obtain ⟨f22,f23,f24⟩:=bI h25;have f26:a2.aL[1]? = some x19:=f24;obtain ⟨x20,h27,h⟩:=aF h;refine dD λ_ z=>?_;simp only [go_sem,seval,rP u0,f22,f23,f26];refine SC.bA (nL n a0 x11.2 x19 _ h27 _ _ _ P0 F0 fp0 S0 C0) ?_;simp only [go_sem,seval];apply z;refine aO (dZ λ_ z=>?_);simp only [go_sem,seval,rP u0];apply z;refine aO ?_;obtain ⟨x28,h30,h⟩:=aF h;obtain ⟨x29,h31,h⟩:=aF h;refine dZ λ_ z=>?_;simp only [go_sem,seval,rP u0];refine SC.bA (Aq x20.1.cJ 2 _ h30 _ _ _) ?_;simp only [go_sem,seval,rP u0];refine SC.bA (bG a0 x20.2 x28 132 a2.fM _ h31 _ _ _ P0 F0 fp0 S0 C0) ?_;simp only [go_sem,seval];apply z;refine bL ?_;refine cD ?_;cases h;exact jS
def Fy (f:aE->aG->aB->aA->Bool->Option (aA × aE × aG)):Prop:=∀a0 a1 a2 a3 a4 r,f a0 a1 a2 a3 a4=some r->∀(q:Pa) (m:M) (vs:List V) (P0:Pa) (F0 fp0 S0 C0:V),vs.map V.weak1=[.ptr P0 0,.agg ((aB.C a2)),.agg ([.ls a3.dR,.li a3.eB,.li a3.iH,.nilv,.list .none (a3.bH.map aA.C),.list .none (a3.eN.map aA.C),.li a3.fM]),.lb a4]/\m.blk P0=some (qU F0 fp0 S0 C0 a0 a1)/\eO F0 fp0 S0 C0 m.hp a0/\m.gl 0=.eptr [(cA bC.C cK)] 0 0->SC prog 135 vs q m (λv Y=>∃(h:Hp) (vr:Nat->Nat),v=.agg ((aA.C r.1))/\Y=m.ck P0 (qU F0 fp0 S0 C0 r.2.1 r.2.2) h vr/\eO F0 fp0 S0 C0 h r.2.1)
theorem EB (n:Nat):Fy (qD n):=by
 rintro a0 a1 a2 a3 a4 r h q m vs P0 F0 fp0 S0 C0 ⟨hv,w0,t0,hg0⟩;refine SC.wv hv ?_;refine SC.ap w0 λu0 l0=>?_
 try simp only [go_sem] at w0 l0
 refine sS func135 call135 ntmps135 results135 ?_;unfold qD at h;refine bL ?_;refine wF (id:=(1::q)) (off:=3) (cs:=[.ls a3.dR,.li a3.eB,.li a3.iH,.list .self ([].map aD.C),.list .none (a3.bH.map aA.C),.list .none (a3.eN.map aA.C),.li a3.fM]) (by simp only [go_sem,seval]) rfl ?_;refine aO ?_;obtain ⟨y4,j4,h⟩:=aF h;refine tK 18 (λX Y=>X 0=.ptr P0 0/\X 5=.ptr (0::q) 0/\X 6=.ptr (1::q) 0/\X 8=.ptr (2::q) 0/\Y.blk P0=some (qU F0 fp0 S0 C0 a0 y4)/\eO F0 fp0 S0 C0 Y.hp a0/\Y.blk (0::q)=some ((aB.C a2))/\Y.blk (1::q)=some ([.ls a3.dR,.li a3.eB,.li a3.iH,.nilv,.list .none (a3.bH.map aA.C),.list .none (a3.eN.map aA.C),.li a3.fM])/\Y.blk (2::q)=some ([.ls [],.li 0,.li 0,.list .self ([].map aD.C),.list .self ([].map aA.C),.list .self ([].map aA.C),.li 0])/\Y.gl=m.gl/\Fr q P0 m Y/\Y.hp=m.hp) ?_ ?_
 ·rcases jR j4 with ⟨c5,j4⟩ | ⟨c5,j4⟩
  ·obtain ⟨x6,h13,j4⟩:=aF j4;obtain ⟨f10,f11,f12⟩:=bI h13;obtain ⟨g7,d7,z7,k7⟩:=eO.foc t0 f12;obtain ⟨p7,s14,s15,s16,s17,s18,s19,s20⟩:=k7.rows;have s21:=(eO.funcsR t0);have s8:=eO.fpEq t0 f10;have s22:eO F0 (.pp (rA F0) (a0.f_.toNat*6)) S0 C0 m.hp a0:=by rw [←s8];exact t0
   obtain ⟨x9,h23,j4⟩:=aF j4;refine dZ λ_ z=>?_;simp only [go_sem,seval,rP u0,c5,s16,k7.hF,s8,w0];refine SC.bA (bG a0 a1 (x6.bN != 0) 135 a2.fM _ h23 _ _ _ P0 F0 fp0 S0 C0) ?_;simp only [go_sem,seval,s8];apply z;simp only [aK];cases j4;exact jD
  ·obtain ⟨x24,h25,j4⟩:=aF j4;refine dZ λ_ z=>?_;simp only [go_sem,seval,c5];refine SC.bA (bG a0 a1 false 135 a2.fM _ h25 _ _ _ P0 F0 fp0 S0 C0) ?_;simp only [go_sem,seval];apply z;simp only [aK];cases j4;exact jD
 ·intro E26 m27 e28 _;refine aO (aO ?_);obtain ⟨y29,j29,h⟩:=aF h;refine tK 31 (λX Y=>X 0=.ptr P0 0/\X 5=.ptr (0::q) 0/\X 6=.ptr (1::q) 0/\X 8=.ptr (2::q) 0/\X 37=.lb y29/\Y.blk P0=some (qU F0 fp0 S0 C0 a0 y4)/\eO F0 fp0 S0 C0 Y.hp a0/\Y.blk (0::q)=some ((aB.C a2))/\Y.blk (1::q)=some ([.ls a3.dR,.li a3.eB,.li a3.iH,.nilv,.list .none (a3.bH.map aA.C),.list .none (a3.eN.map aA.C),.li a3.fM])/\Y.blk (2::q)=some ([.ls [],.li 0,.li 0,.list .self ([].map aD.C),.list .self ([].map aA.C),.list .self ([].map aA.C),.li 0])/\Y.gl=m.gl/\Fr q P0 m Y/\Y.hp=m.hp) ?_ ?_
  ·rcases jR j29 with ⟨c30,j29⟩ | ⟨c30,j29⟩
   ·obtain ⟨x31,h36,j29⟩:=aF j29;obtain ⟨f33,f34,f35⟩:=bI h36;have f37:a2.aL[0]? = some x31:=f35;obtain ⟨x32,h38,j29⟩:=aF j29;refine dD λ_ z=>?_;simp only [go_sem,seval,c30,f33,f34,f37,e28];refine SC.bA (sF n a0 y4 x31 _ h38 _ _ _ P0 F0 fp0 S0 C0) ?_;simp only [go_sem,seval];apply z;cases j29;exact jD
   ·refine dD λ_ z=>?_;simp only [go_sem,seval,c30,e28];apply z;cases j29;exact jD
  ·intro E39 m40 e41 _;refine dI h (λc42 h=>?_) (λc42 h=>?_)
   ·refine aO ?_;obtain ⟨x43,h48,h⟩:=aF h;obtain ⟨f45,f46,f47⟩:=bI h48;have f49:a2.aL[0]? = some x43:=f47;obtain ⟨x44,h50,h⟩:=aF h;refine dZ λ_ z=>?_;simp only [go_sem,seval,f45,f46,f49,e41];refine SC.mono (qR n a0 y4 x43 ({ a3 with aL:=[] }:aA) (-2:Int) _ h50 _ _ _ P0 F0 fp0 S0 C0 (by simp only [go_sem,t0,e41,hg0])) ?_;rintro _ _ ⟨h_x44,vr_x44,rfl,rfl,hk_x44⟩;simp only [go_sem,seval,rP u0,e41];apply z;refine bL ?_;refine aO (bL ?_);refine dI h (λc51 h=>?_) (λc51 h=>?_)
    ·have s58:=(eO.funcsR hk_x44);obtain ⟨x52,h62,h⟩:=aF h;obtain ⟨f59,f60,f61⟩:=bI h62;obtain ⟨g53,d53,z53,k53⟩:=eO.foc hk_x44 f61;obtain ⟨p53,s63,s64,s65,s66,s67,s68,s69⟩:=k53.rows;obtain ⟨x54,h73,h⟩:=aF h;obtain ⟨f70,f71,f72⟩:=bI h73;obtain ⟨g55,d55,z55,k55⟩:=eO.foc hk_x44 f72;have hHF:=k53.hF.symm.trans k55.hF
     injection hHF with hHF
     subst hHF;obtain ⟨p55,s74,s75,s76,s77,s78,s79,s80⟩:=k55.rows;have s56:=eO.fpEq hk_x44 f70;have s81:eO F0 (.pp (rA F0) (x44.2.1.f_.toNat*6)) S0 C0 h_x44 x44.2.1:=by rw [←s56];exact hk_x44
     obtain ⟨x57,h82,h⟩:=aF h;refine dZ λ_ z=>?_;simp only [go_sem,seval,rP u0,c51,s58.al,uM.ix (P:=prog) (k:=.i64) (eO.funcsR hk_x44) Oa f59 f60,s65,k53.hF,s76,s56,e41];refine SC.bA (bG x44.2.1 x44.2.2 (x52.bN == x54.bN) 132 a2.fM _ h82 _ _ _ P0 F0 fp0 S0 C0) ?_;simp only [go_sem,seval,s56];apply z;refine bL ?_;refine cD ?_
     try simp only [cM]
     cases h;refine ⟨by simp,?_⟩;simp only [go_sem,seval,rP u0,s56,e41];refine ⟨_,_,Fr.to (q:=q) (p:=P0) ?_ u0 (by simp only [go_sem,seval,rP u0]),?_⟩
     ·simp only [go_sem,e41]
     ·simp only [go_sem,s81]
    ·refine bP ?_
     refine bL ?_;refine cD ?_
     try simp only [cM]
     cases h;refine ⟨by simp,?_⟩;simp only [go_sem,seval,rP u0,e41];refine ⟨_,_,Fr.to (q:=q) (p:=P0) ?_ u0 (by simp only [go_sem,seval,rP u0]),?_⟩
     ·simp only [go_sem,e41]
     ·simp only [go_sem,hk_x44]
   ·refine bP ?_
    refine aO ?_;obtain ⟨x83,h89,h⟩:=aF h;obtain ⟨f86,f87,f88⟩:=bI h89;have f90:a2.aL[0]? = some x83:=f88;obtain ⟨x84,h91,h⟩:=aF h;refine dD λ_ z=>?_;simp only [go_sem,seval,f86,f87,f90,e41];refine SC.bA (nL n a0 y4 x83 _ h91 _ _ _ P0 F0 fp0 S0 C0) ?_;simp only [go_sem,seval];apply z;refine aO (dZ λ_ z=>?_);simp only [go_sem,seval,rP u0,e41];apply z;refine aO ?_;obtain ⟨x92,h100,h⟩:=aF h;obtain ⟨f97,f98,f99⟩:=bI h100;obtain ⟨g93,d93,z93,k93⟩:=eO.foc t0 f99;obtain ⟨p93,s101,s102,s103,s104,s105,s106,s107⟩:=k93.rows;have s108:=(eO.funcsR t0);have s94:=eO.fpEq t0 f97;have s109:eO F0 (.pp (rA F0) (a0.f_.toNat*6)) S0 C0 m.hp a0:=by rw [←s94];exact t0
    obtain ⟨x95,h110,h⟩:=aF h;obtain ⟨x96,h111,h⟩:=aF h;refine dZ λ_ z=>?_;simp only [go_sem,seval,rP u0,s103,k93.hF,s94,e41];refine SC.bA (Aq x84.1.cJ x92.bN _ h110 _ _ _) ?_;simp only [go_sem,seval,rP u0,e41];refine SC.bA (bG a0 x84.2 x95 132 a2.fM _ h111 _ _ _ P0 F0 fp0 S0 C0) ?_;simp only [go_sem,seval,s94];apply z;refine bL ?_;refine cD ?_;cases h;refine ⟨by simp,?_⟩;simp only [go_sem,seval,s94,e41];refine ⟨_,_,Fr.to (q:=q) (p:=P0) ?_ u0 (by simp only [go_sem,seval,rP u0]),?_⟩
    ·simp only [go_sem,e41]
    ·simp only [go_sem,s109,e41]
def nO (f:aE->aG->aB->Bool->Option ((List aA) × aE × aG)):Prop:=∀a0 a1 a2 a3 r,f a0 a1 a2 a3=some r->∀(q:Pa) (m:M) (vs:List V) (P0:Pa) (F0 fp0 S0 C0:V),vs.map V.weak1=[.ptr P0 0,.agg ((aB.C a2)),.lb a3]/\m.blk P0=some (qU F0 fp0 S0 C0 a0 a1)/\eO F0 fp0 S0 C0 m.hp a0/\m.gl 0=.eptr [(cA bC.C cK)] 0 0->SC prog 59 vs q m (λv Y=>∃(S:V) (h:Hp) (vr:Nat->Nat),v=.list .none (r.1.map aA.C)/\Y=m.ck P0 (qU F0 fp0 S C0 r.2.1 r.2.2) h vr/\eO F0 fp0 S C0 h r.2.1)
def rD (f:aE->aG->aB->Bool->Option (aA × aE × aG)):Prop:=∀a0 a1 a2 a3 r,f a0 a1 a2 a3=some r->∀(q:Pa) (m:M) (vs:List V) (P0:Pa) (F0 fp0 S0 C0:V),vs.map V.weak1=[.ptr P0 0,.agg ((aB.C a2)),.lb a3]/\m.blk P0=some (qU F0 fp0 S0 C0 a0 a1)/\eO F0 fp0 S0 C0 m.hp a0/\m.gl 0=.eptr [(cA bC.C cK)] 0 0->SC prog 90 vs q m (λv Y=>∃(S:V) (h:Hp) (vr:Nat->Nat),v=.agg ((aA.C r.1))/\Y=m.ck P0 (qU F0 fp0 S C0 r.2.1 r.2.2) h vr/\eO F0 fp0 S C0 h r.2.1)
def tS (f:aE->aG->aB->aA->Option (aA × aE × aG)):Prop:=∀a0 a1 a2 a3 r,f a0 a1 a2 a3=some r->∀(q:Pa) (m:M) (vs:List V) (P0:Pa) (F0 fp0 S0 C0:V),vs.map V.weak1=[.ptr P0 0,.agg ((aB.C a2)),.agg ([.ls a3.dR,.li a3.eB,.li a3.iH,.nilv,.list .none (a3.bH.map aA.C),.list .none (a3.eN.map aA.C),.li a3.fM])]/\m.blk P0=some (qU F0 fp0 S0 C0 a0 a1)/\eO F0 fp0 S0 C0 m.hp a0/\m.gl 0=.eptr [(cA bC.C cK)] 0 0->SC prog 134 vs q m (λv Y=>∃(S:V) (h:Hp) (vr:Nat->Nat),v=.agg ((aA.C r.1))/\Y=m.ck P0 (qU F0 fp0 S C0 r.2.1 r.2.2) h vr/\eO F0 fp0 S C0 h r.2.1)
theorem BY {dY} (tG:rD dY) (n:Nat):nO (nM dY n):=by
 rintro a0 a1 a2 a3 r h q m vs P0 F0 fp0 S0 C0 ⟨hv,w0,t0,hg0⟩;refine SC.wv hv ?_;refine SC.ap w0 λu0 l0=>?_
 try simp only [go_sem] at w0 l0
 refine sS func59 call59 ntmps59 results59 ?_;unfold nM at h;refine bL ?_;refine aO ?_;have s2:=(eO.scopeS t0);refine dD λ_ z=>?_;simp only [go_sem,seval,pU u0,s2.al,w0];apply z;refine bL ?_;refine aO (bL ?_);refine cU ?_;obtain ⟨y8,j8,h⟩:=aF h;refine Cq 8 ([].map aA.C) rfl (by simp only [go_sem,seval]) ?_;refine tQ (λc X Y=>∃v4 v5 v6 v7 o_v4 j_v4 S_v6,kL dY a2 a3 c v4 v5 v6 v7=some y8/\X 0=.ptr P0 0/\X 2=.lb a3/\X 4=.ptr (0::q) 0/\X 7=.li (a0.bB.length:Int)/\X 8=.list (.st (.anon o_v4 j_v4)) (v4.map aA.C)/\Y.tok o_v4 j_v4=true/\q <:+ o_v4/\X 17=.list .none (a2.aL.map aB.C)/\X 18=.li (a2.aL.length:Int)/\X 19=.li v5/\Y.blk P0=some (qU F0 fp0 S_v6 C0 v6 v7)/\eO F0 fp0 S_v6 C0 Y.hp v6/\Y.blk (0::q)=some ((aB.C a2))/\Y.gl=m.gl/\Fr q P0 m Y) n ⟨[],0,a0,a1,(13::q),0,S0,j8,?_⟩ ?_
 ·simp only [go_sem,seval,fG u0,pU u0,t0,w0]
 rintro i3 c9 E10 m11 ⟨v4,v5,v6,v7,o_v4,j_v4,S_v6,j8,e12⟩ _
 rcases c9 with _ | c9
 ·cases j8
 rw [kL] at j8;have bv6:eO F0 fp0 S_v6 C0 m11.hp v6:=by simp only [e12]
 refine bL ?_;refine aO (dI j8 (λc13 j8=>?_) (λc13 j8=>?_))
 ·refine bP ?_
  refine aO (cU (aO ?_));obtain ⟨x14,h19,j8⟩:=aF j8;obtain ⟨f16,f17,f18⟩:=bI h19;refine lP ?_;refine aO (bL ?_);refine dI j8 (λc20 j8=>?_) (λc20 j8=>?_)
  ·refine jJ ?_
   try simp only [seval,dB,cP,aK]
   cases j8;refine aO ?_;have s24:=(eO.scopeS bv6);obtain ⟨⟨f21',f22'⟩,h⟩:=bY h;have f21:0<=(a0.bB.length:Int):=f21';have f22:(a0.bB.length:Int)<=(v6.bB.length:Int):=f22';have s25:uM (AK S_v6 (a0.bB.length)) 1 (v6.bB.take (a0.bB.length)).length:=uM.cutL (eO.scopeS bv6) f22;have k23:eO F0 fp0 (AK S_v6 (a0.bB.length)) C0 m11.hp ({ v6 with bB:=(v6.bB.take (a0.bB.length)) }:aE):=eO.cutS bv6 (by omega) rfl rfl rfl rfl;refine dD λ_ z=>?_;simp only [go_sem,seval,pU u0,c20,s24.al,uM.slHi (P:=prog) (k:=.i64) (eO.scopeS bv6) UG f21 f22,s25.cells,s25.cok,s25.st1,e12];apply z;refine yV ?_;simp only [go_sem,seval,e12];refine cD ?_;cases h;refine ⟨by simp,?_⟩;simp only [go_sem,seval];refine ⟨(AK S_v6 (a0.bB.length)),_,_,Fr.to (q:=q) (p:=P0) ?_ u0 (by simp only [go_sem,seval]),?_⟩
   ·simp only [go_sem,e12]
   ·simp only [go_sem,k23]
  ·refine bP ?_
   try simp only [aK]
   obtain ⟨y26,j26,j8⟩:=aF j8;refine tK 28 (λX Y=>∃(oy26_8:Pa) (jy26_8:Nat),∃(S_y26_2_1:V),X 0=.ptr P0 0/\X 2=.lb a3/\X 4=.ptr (0::q) 0/\X 7=.li (a0.bB.length:Int)/\X 8=.list (.st (.anon oy26_8 jy26_8)) (y26.1.map aA.C)/\Y.tok oy26_8 jy26_8=true/\q <:+ oy26_8/\X 17=.list .none (a2.aL.map aB.C)/\X 18=.li (a2.aL.length:Int)/\X 19=.li v5/\Y.blk P0=some (qU F0 fp0 S_y26_2_1 C0 y26.2.1 y26.2.2)/\eO F0 fp0 S_y26_2_1 C0 Y.hp y26.2.1/\Y.blk (0::q)=some ((aB.C a2))/\Y.gl=m.gl/\Fr q P0 m Y) ?_ ?_
   ·rcases jR j26 with ⟨c27,j26⟩ | ⟨c27,j26⟩
    ·obtain ⟨x28,h29,j26⟩:=aF j26;refine dD λ_ z=>?_;simp only [go_sem,seval,c20,c27,e12];refine SC.mono (tG v6 v7 x14 (v5 == (i64.wrap ((a2.aL.length:Int) - 1))) _ h29 _ _ _ P0 F0 fp0 S_v6 C0 (by simp only [go_sem,seval,pU u0,bv6,e12,hg0])) ?_;rintro _ _ ⟨S_x28,h_x28,vr_x28,rfl,rfl,hk_x28⟩;obtain ⟨f30,j26⟩:=bY j26;have f31:v4.length+1<=1073741824:=by first | omega | (simp only [mX,pX,sY] at f30 ⊢;omega)
     have f32:v4.length<=1073741823:=by first | omega | (simp only [mX,pX,sY] at f30 ⊢;omega)
     simp only [go_sem,seval,f31,e12];apply z;cases j26;refine ⟨by decide,(26::i3::14::q),0,S_x28,?_⟩;simp only [go_sem,seval,fG u0,pU u0,c27,hk_x28,e12]
    ·obtain ⟨x33,h34,j26⟩:=aF j26;refine dD λ_ z=>?_;simp only [go_sem,seval,c20,c27,e12];refine SC.mono (tG v6 v7 x14 false _ h34 _ _ _ P0 F0 fp0 S_v6 C0 (by simp only [go_sem,seval,pU u0,bv6,e12,hg0])) ?_;rintro _ _ ⟨S_x33,h_x33,vr_x33,rfl,rfl,hk_x33⟩;obtain ⟨f35,j26⟩:=bY j26;have f36:v4.length+1<=1073741824:=by first | omega | (simp only [mX,pX,sY] at f35 ⊢;omega)
     have f37:v4.length<=1073741823:=by first | omega | (simp only [mX,pX,sY] at f35 ⊢;omega)
     simp only [go_sem,seval,f36,e12];apply z;cases j26;refine ⟨by decide,(26::i3::14::q),0,S_x33,?_⟩;simp only [go_sem,seval,fG u0,pU u0,c27,hk_x33,e12]
   ·rintro E38 m39 ⟨oy26_8,jy26_8,S_y26_2_1,e40⟩ _;simp only [aK,bU];have hk_y26_2_1:eO F0 fp0 S_y26_2_1 C0 m39.hp y26.2.1:=by simp only [e40]
    refine lP ?_;refine ⟨c9,JO _,y26.1,(i64.wrap (v5+1)),y26.2.1,y26.2.2,oy26_8,jy26_8,S_y26_2_1,j8,?_⟩;simp only [go_sem,seval,hk_y26_2_1,e40]
 ·refine jJ ?_
  try simp only [dB,cP,↓reduceIte,aK]
  cases j8;refine aO ?_;have s44:=(eO.scopeS bv6);obtain ⟨⟨f41',f42'⟩,h⟩:=bY h;have f41:0<=(a0.bB.length:Int):=f41';have f42:(a0.bB.length:Int)<=(v6.bB.length:Int):=f42';have s45:uM (AK S_v6 (a0.bB.length)) 1 (v6.bB.take (a0.bB.length)).length:=uM.cutL (eO.scopeS bv6) f42;have k43:eO F0 fp0 (AK S_v6 (a0.bB.length)) C0 m11.hp ({ v6 with bB:=(v6.bB.take (a0.bB.length)) }:aE):=eO.cutS bv6 (by omega) rfl rfl rfl rfl;refine dD λ_ z=>?_;simp only [go_sem,seval,c13,s44.al,uM.slHi (P:=prog) (k:=.i64) (eO.scopeS bv6) UG f41 f42,s45.cells,s45.cok,s45.st1,e12];apply z;refine yV ?_;simp only [go_sem,seval,e12];refine cD ?_;cases h;refine ⟨by simp,?_⟩;simp only [go_sem,seval];refine ⟨(AK S_v6 (a0.bB.length)),_,_,Fr.to (q:=q) (p:=P0) ?_ u0 (by simp only [go_sem,seval]),?_⟩
  ·simp only [go_sem,e12]
  ·simp only [go_sem,k43]
theorem zZ {cV} (oL:nO cV) {pT} (Da:tS pT) (n:Nat):rD (kS cV pT n):=by
 rintro a0 a1 a2 a3 r h q m vs P0 F0 fp0 S0 C0 ⟨hv,w0,t0,hg0⟩;refine SC.wv hv ?_;refine SC.ap w0 λu0 l0=>?_
 try simp only [go_sem] at w0 l0
 refine sS func90 call90 ntmps90 results90 ?_;unfold kS at h;refine bL ?_;refine bL ?_;refine wF (id:=(5::q)) (off:=3) (cs:=[.ls [],.li (-1:Int),.li 0,.list .self ([].map aD.C),.list .self ([].map aA.C),.list .self ([].map aA.C),.li a2.fM]) (by simp only [go_sem,seval]) rfl ?_;refine aO (bL ?_);refine cU (bL ?_);refine dI h (λc4 h=>?_) (λc4 h=>?_)
 ·refine aO ?_;obtain ⟨x5,h10,h⟩:=aF h;obtain ⟨f7,f8,f9⟩:=bI h10;have f11:a2.aL[0]? = some x5:=f9;obtain ⟨x6,h12,h⟩:=aF h;refine dD λ_ z=>?_;simp only [go_sem,seval,c4,f7,f8,f11];refine SC.bA (jV n a0 a1 x5 _ h12 _ _ _ P0 F0 fp0 S0 C0) ?_;simp only [go_sem,seval,pU u0];apply z;obtain ⟨x13,h14,h⟩:=aF h;refine cX λ_ z=>?_;simp only [go_sem,seval,pU u0];refine SC.mono (iG n a0 x6.2 (aJ.mk a2.cZ 1 0) a2.fM _ h14 _ _ _ P0 F0 fp0 S0 C0 (by simp only [go_sem,seval,pU u0,t0])) ?_;rintro _ _ ⟨S_x13,h_x13,vr_x13,rfl,rfl,hk_x13⟩;simp only [go_sem,seval,pU u0];apply z;simp only [aK,bU];refine bL ?_;refine cD ?_;cases h;refine ⟨by simp,?_⟩;simp only [go_sem,seval,pU u0];refine ⟨S_x13,_,_,Fr.to (q:=q) (p:=P0) ?_ u0 (by simp only [go_sem,seval,pU u0]),?_⟩
  ·simp only [go_sem]
  ·simp only [go_sem,hk_x13]
 ·refine bL ?_;refine dI h (λc15 h=>?_) (λc15 h=>?_)
  ·refine aO ?_;obtain ⟨x16,h17,h⟩:=aF h;refine dD λ_ z=>?_;simp only [go_sem,seval,c15];refine SC.mono (DR n a0 a1 a2 (aA.mk [] (-1:Int) 0 [] [] [] a2.fM) _ h17 _ _ _ P0 F0 fp0 S0 C0 (by simp only [go_sem,seval,pU u0,t0,w0,hg0])) ?_;rintro _ _ ⟨S_x16,h_x16,vr_x16,rfl,rfl,hk_x16⟩;simp only [go_sem,seval,pU u0];apply z;refine cD ?_
   try simp only [cM,iT]
   cases h;refine ⟨by simp,?_⟩;simp only [go_sem,seval,pU u0];refine ⟨S_x16,_,_,Fr.to (q:=q) (p:=P0) ?_ u0 (by simp only [go_sem,seval,pU u0]),?_⟩
   ·simp only [go_sem]
   ·simp only [go_sem,hk_x16]
  ·refine bL ?_;refine dI h (λc18 h=>?_) (λc18 h=>?_)
   ·refine aO ?_;obtain ⟨x19,h21,h⟩:=aF h;obtain ⟨x20,h22,h⟩:=aF h;refine dZ λ_ z=>?_;simp only [go_sem,seval,c18];refine SC.bA (GH (i64.wrap (min a2.jO 1025)) _ h21 _ _ _) ?_;simp only [go_sem,seval];refine SC.bA (bG a0 a1 x19 136 a2.fM _ h22 _ _ _ P0 F0 fp0 S0 C0) ?_;simp only [go_sem,seval];apply z;refine Ar (id:=(5::q)) (off:=3) (cs:=[.ls [],.li (-1:Int),.li 0,.nilv,.list .self ([].map aA.C),.list .self ([].map aA.C),.li a2.fM]) (by simp only [go_sem,seval,pU u0]) rfl ?_;obtain ⟨x23,h24,h⟩:=aF h;refine cX λ_ z=>?_;simp only [go_sem,seval,pU u0];refine SC.mono (iG n a0 x20 (aJ.mk a2.cZ 4 (i64.wrap a2.jO)) a2.fM _ h24 _ _ _ P0 F0 fp0 S0 C0 (by simp only [go_sem,seval,pU u0,t0])) ?_;rintro _ _ ⟨S_x23,h_x23,vr_x23,rfl,rfl,hk_x23⟩;simp only [go_sem,seval,pU u0];apply z;simp only [aK,bU];refine bL ?_;refine cD ?_;cases h;refine ⟨by simp,?_⟩;simp only [go_sem,seval,pU u0];refine ⟨S_x23,_,_,Fr.to (q:=q) (p:=P0) ?_ u0 (by simp only [go_sem,seval,pU u0]),?_⟩
    ·simp only [go_sem]
    ·simp only [go_sem,hk_x23]
   ·refine bL ?_;refine dI h (λc25 h=>?_) (λc25 h=>?_)
    ·refine aO ?_;obtain ⟨x26,h27,h⟩:=aF h;refine dD λ_ z=>?_;simp only [go_sem,seval,c25];refine SC.mono (Fq n a0 a1 a2 (aA.mk [] (-1:Int) 0 [] [] [] a2.fM) _ h27 _ _ _ P0 F0 fp0 S0 C0 (by simp only [go_sem,seval,pU u0,t0,w0,hg0])) ?_;rintro _ _ ⟨h_x26,vr_x26,rfl,rfl,hk_x26⟩;simp only [go_sem,seval,pU u0];apply z;refine cD ?_
     try simp only [cM,iT]
     cases h;refine ⟨by simp,?_⟩;simp only [go_sem,seval,pU u0];refine ⟨S0,_,_,Fr.to (q:=q) (p:=P0) ?_ u0 (by simp only [go_sem,seval,pU u0]),?_⟩
     ·simp only [go_sem]
     ·simp only [go_sem,hk_x26]
    ·refine bL ?_;refine dI h (λc28 h=>?_) (λc28 h=>?_)
     ·refine aO ?_;obtain ⟨x29,h30,h⟩:=aF h;refine dD λ_ z=>?_;simp only [go_sem,seval,c28];refine SC.bA (Fs n a0 a1 a2 (aA.mk [] (-1:Int) 0 [] [] [] a2.fM) _ h30 _ _ _ P0 F0 fp0 S0 C0) ?_;simp only [go_sem,seval,pU u0];apply z;refine cD ?_
      try simp only [cM,iT]
      cases h;refine ⟨by simp,?_⟩;simp only [go_sem,seval];refine ⟨S0,_,_,Fr.to (q:=q) (p:=P0) ?_ u0 (by simp only [go_sem,seval,pU u0]),?_⟩
      ·simp only [go_sem]
      ·simp only [go_sem,t0]
     ·refine bL ?_;refine dI h (λc31 h=>?_) (λc31 h=>?_)
      ·refine aO ?_;obtain ⟨x32,h33,h⟩:=aF h;refine dD λ_ z=>?_;simp only [go_sem,seval,c31];refine SC.mono (qR n a0 a1 a2 (aA.mk [] (-1:Int) 0 [] [] [] a2.fM) (-1:Int) _ h33 _ _ _ P0 F0 fp0 S0 C0 (by simp only [go_sem,seval,pU u0,t0,w0,hg0])) ?_;rintro _ _ ⟨h_x32,vr_x32,rfl,rfl,hk_x32⟩;simp only [go_sem,seval,pU u0];apply z;refine cD ?_
       try simp only [cM,iT]
       cases h;refine ⟨by simp,?_⟩;simp only [go_sem,seval,pU u0];refine ⟨S0,_,_,Fr.to (q:=q) (p:=P0) ?_ u0 (by simp only [go_sem,seval,pU u0]),?_⟩
       ·simp only [go_sem]
       ·simp only [go_sem,hk_x32]
      ·refine bL ?_;refine dI h (λc34 h=>?_) (λc34 h=>?_)
       ·refine aO ?_;obtain ⟨x35,h40,h⟩:=aF h;obtain ⟨f37,f38,f39⟩:=bI h40;have f41:a2.aL[0]? = some x35:=f39;obtain ⟨x36,h42,h⟩:=aF h;refine dD λ_ z=>?_;simp only [go_sem,seval,c34,f37,f38,f41];refine SC.bA (jV n a0 a1 x35 _ h42 _ _ _ P0 F0 fp0 S0 C0) ?_;simp only [go_sem,seval,pU u0];apply z;refine aO ?_;obtain ⟨x43,h48,h⟩:=aF h;obtain ⟨f45,f46,f47⟩:=bI h48;have f49:a2.aL[1]? = some x43:=f47;obtain ⟨x44,h50,h⟩:=aF h;refine dD λ_ z=>?_;simp only [go_sem,seval,pU u0,f45,f46,f49];refine SC.mono (oL a0 x36.2 x43 false _ h50 _ _ _ P0 F0 fp0 S0 C0 (by simp only [go_sem,seval,pU u0,t0,hg0])) ?_;rintro _ _ ⟨S_x44,h_x44,vr_x44,rfl,rfl,hk_x44⟩;simp only [go_sem,seval,pU u0];apply z;refine aO ?_;obtain ⟨⟨f51,f52⟩,h⟩:=bY h;refine lP ?_;refine cU ?_;obtain ⟨y58,j58,h⟩:=aF h;refine Ja [] [((5::q),5)] rfl (λc X Y=>∃v54 v55 v56 v57 S_v55,gN cV a2 c v54 v55 v56 v57=some y58/\X 0=.ptr P0 0/\X 6=.ptr (1::q) 0/\X 7=.ptr (5::q) 0/\X 101=.list .none ((a2.aL.drop 2).map aB.C)/\X 102=.li ((a2.aL.drop 2).length:Int)/\X 103=.li v54/\Y.blk P0=some (qU F0 fp0 S_v55 C0 v55 v56)/\eO F0 fp0 S_v55 C0 Y.hp v55/\Y.blk (1::q)=some ([.ls [],.li 0,.li 0,.list .self ([].map aD.C),.list .self ([].map aA.C),.list .self ([].map aA.C),.li 0])/\Y.blk (5::q)=some ([.ls v57.dR,.li v57.eB,.li v57.iH,.list .self (v57.aL.map aD.C),.list .none (v57.bH.map aA.C),.list .none (v57.eN.map aA.C),.li v57.fM])/\Y.gl=m.gl/\Fr q P0 m Y) n ⟨0,x44.2.1,x44.2.2,(aA.mk ([105,102]:bW) (-1:Int) 0 [x36.1] x44.1 [] a2.fM),S_x44,j58,?_⟩ ?_
        ·simp only [go_sem,seval,pU u0,hk_x44]
        rintro i53 c59 E60 m61 ⟨v54,v55,v56,v57,S_v55,j58,e62⟩ _
        rcases c59 with _ | c59
        ·cases j58
        rw [gN] at j58;have bv55:eO F0 fp0 S_v55 C0 m61.hp v55:=by simp only [e62]
        refine bL ?_;refine aO (dI j58 (λc63 j58=>?_) (λc63 j58=>?_))
        ·refine bP ?_
         refine aO (cU (aO ?_));obtain ⟨x64,h69,j58⟩:=aF j58;obtain ⟨f66,f67,f68⟩:=bI h69;refine lP ?_;obtain ⟨x70,h71,j58⟩:=aF j58;refine cX λ_ z=>?_;simp only [go_sem,seval,e62];refine SC.mono (oL v55 v56 x64 false _ h71 _ _ _ P0 F0 fp0 S_v55 C0 (by simp only [go_sem,seval,pU u0,bv55,e62,hg0])) ?_;rintro _ _ ⟨S_x70,h_x70,vr_x70,rfl,rfl,hk_x70⟩;simp only [go_sem,seval,pU u0,e62];apply z;simp only [aK,bU];refine lP ?_;refine ⟨c59,JO _,(i64.wrap (v54+1)),x70.2.1,x70.2.2,({ v57 with eN:=x70.1 }:aA),S_x70,j58,?_⟩;simp only [go_sem,seval,pU u0,hk_x70,e62]
        ·refine jJ ?_
         try simp only [dB,cP,↓reduceIte,aK,bU]
         cases j58;refine bL ?_;refine cD ?_;cases h;refine ⟨by simp,?_⟩;simp only [go_sem,seval,e62];refine ⟨S_v55,_,_,Fr.to (q:=q) (p:=P0) ?_ u0 (by simp only [go_sem,seval,pU u0,e62]),?_⟩
         ·simp only [go_sem,e62]
         ·simp only [go_sem,bv55]
       ·refine bL ?_;refine dI h (λc72 h=>?_) (λc72 h=>?_)
        ·refine aO ?_;obtain ⟨x73,h74,h⟩:=aF h;refine dD λ_ z=>?_;simp only [go_sem,seval,c72];refine SC.mono (Da a0 a1 a2 (aA.mk [] (-1:Int) 0 [] [] [] a2.fM) _ h74 _ _ _ P0 F0 fp0 S0 C0 (by simp only [go_sem,seval,pU u0,t0,w0,hg0])) ?_;rintro _ _ ⟨S_x73,h_x73,vr_x73,rfl,rfl,hk_x73⟩;simp only [go_sem,seval,pU u0];apply z;refine cD ?_
         try simp only [cM,iT]
         cases h;refine ⟨by simp,?_⟩;simp only [go_sem,seval,pU u0];refine ⟨S_x73,_,_,Fr.to (q:=q) (p:=P0) ?_ u0 (by simp only [go_sem,seval,pU u0]),?_⟩
         ·simp only [go_sem]
         ·simp only [go_sem,hk_x73]
        ·refine bL ?_;refine dI h (λc75 h=>?_) (λc75 h=>?_)
         ·refine aO ?_;obtain ⟨x76,h77,h⟩:=aF h;refine dD λ_ z=>?_;simp only [go_sem,seval,c75];refine SC.mono (EB n a0 a1 a2 (aA.mk [] (-1:Int) 0 [] [] [] a2.fM) a3 _ h77 _ _ _ P0 F0 fp0 S0 C0 (by simp only [go_sem,seval,pU u0,t0,w0,hg0])) ?_;rintro _ _ ⟨h_x76,vr_x76,rfl,rfl,hk_x76⟩;simp only [go_sem,seval,pU u0];apply z;refine cD ?_
          try simp only [cM,iT]
          cases h;refine ⟨by simp,?_⟩;simp only [go_sem,seval,pU u0];refine ⟨S0,_,_,Fr.to (q:=q) (p:=P0) ?_ u0 (by simp only [go_sem,seval,pU u0]),?_⟩
          ·simp only [go_sem]
          ·simp only [go_sem,hk_x76]
         ·refine Ar (id:=(5::q)) (off:=3) (cs:=[.ls [],.li (-1:Int),.li 0,.nilv,.list .self ([].map aA.C),.list .self ([].map aA.C),.li a2.fM]) (by simp only [go_sem,seval]) rfl ?_;refine bP ?_
          try simp only [aK,bU]
          refine bL ?_;refine cD ?_;cases h;refine ⟨by simp,?_⟩;simp only [go_sem,seval];refine ⟨S0,_,_,Fr.to (q:=q) (p:=P0) ?_ u0 (by simp only [go_sem,seval,pU u0,w0]),?_⟩
          ·simp only [go_sem]
          ·simp only [go_sem,t0]
theorem CN {cV} (oL:nO cV) (n:Nat):tS (oH cV n):=by
 rintro a0 a1 a2 a3 r h q m vs P0 F0 fp0 S0 C0 ⟨hv,w0,t0,hg0⟩;refine SC.wv hv ?_;refine SC.ap w0 λu0 l0=>?_
 try simp only [go_sem] at w0 l0
 refine sS func134 call134 ntmps134 results134 ?_;unfold oH at h;refine bL ?_;refine wF (id:=(1::q)) (off:=3) (cs:=[.ls a3.dR,.li a3.eB,.li a3.iH,.list .self ([].map aD.C),.list .none (a3.bH.map aA.C),.list .none (a3.eN.map aA.C),.li a3.fM]) (by simp only [go_sem,seval]) rfl ?_;refine aO ?_;obtain ⟨x4,h11,h⟩:=aF h;obtain ⟨f8,f9,f10⟩:=bI h11;have f12:a2.aL[0]? = some x4:=f10;obtain ⟨x5,h13,h⟩:=aF h;obtain ⟨x6,h17,h⟩:=aF h;obtain ⟨f14,f15,f16⟩:=bI h17;have f18:a2.aL[1]? = some x6:=f16;obtain ⟨x7,h19,h⟩:=aF h;refine dZ λ_ z=>?_;simp only [go_sem,seval,f8,f9,f12,f14,f15,f18];refine SC.bA (jV n a0 a1 x4 _ h13 _ _ _ P0 F0 fp0 S0 C0) ?_;simp only [go_sem,seval,rP u0,f18];refine SC.bA (jV n a0 x5.2 x6 _ h19 _ _ _ P0 F0 fp0 S0 C0) ?_;simp only [go_sem,seval,rP u0];apply z;refine aO ?_;have s20:=(eO.scopeS t0);refine dD λ_ z=>?_;simp only [go_sem,seval,rP u0,s20.al];apply z;refine aO ?_;obtain ⟨x21,h22,h⟩:=aF h;refine dD λ_ z=>?_;simp only [go_sem,seval,rP u0];refine SC.mono (iG n a0 x7.2 (aJ.mk a2.cZ 1 0) a2.fM _ h22 _ _ _ P0 F0 fp0 S0 C0 (by simp only [go_sem,seval,rP u0,t0])) ?_;rintro _ _ ⟨S_x21,h_x21,vr_x21,rfl,rfl,hk_x21⟩;simp only [go_sem,seval,rP u0];apply z;refine aO ?_;obtain ⟨x23,h28,h⟩:=aF h;obtain ⟨f25,f26,f27⟩:=bI h28;have f29:a2.aL[2]? = some x23:=f27;obtain ⟨x24,h30,h⟩:=aF h;refine dD λ_ z=>?_;simp only [go_sem,seval,rP u0,f25,f26,f29];refine SC.mono (oL x21.2.1 x21.2.2 x23 false _ h30 _ _ _ P0 F0 fp0 S_x21 C0 (by simp only [go_sem,seval,rP u0,hk_x21,hg0])) ?_;rintro _ _ ⟨S_x24,h_x24,vr_x24,rfl,rfl,hk_x24⟩;simp only [go_sem,seval,rP u0];apply z;refine aO ?_;have s34:=(eO.scopeS hk_x24);obtain ⟨⟨f31',f32'⟩,h⟩:=bY h;have f31:0<=(min (a0.bB.length:Int) (x24.2.1.bB.length:Int)):=f31';have f32:(min (a0.bB.length:Int) (x24.2.1.bB.length:Int))<=(x24.2.1.bB.length:Int):=f32';have s35:uM (AK S_x24 ((min (a0.bB.length:Int) (x24.2.1.bB.length:Int)).toNat)) 1 (x24.2.1.bB.take ((min (a0.bB.length:Int) (x24.2.1.bB.length:Int)).toNat)).length:=uM.cutL (eO.scopeS hk_x24) f32;have k33:eO F0 fp0 (AK S_x24 ((min (a0.bB.length:Int) (x24.2.1.bB.length:Int)).toNat)) C0 h_x24 ({ x24.2.1 with bB:=(x24.2.1.bB.take ((min (a0.bB.length:Int) (x24.2.1.bB.length:Int)).toNat)) }:aE):=eO.cutS hk_x24 (by omega) rfl rfl rfl rfl;refine dZ λ_ z=>?_;simp only [go_sem,seval,rP u0,s34.al,uM.slHi (P:=prog) (k:=.i64) (eO.scopeS hk_x24) UG f31 f32,s35.cells,s35.cok,s35.st1];apply z;refine bL ?_;refine cD ?_;cases h;refine ⟨by simp,?_⟩;simp only [go_sem,seval,rP u0];refine ⟨(AK S_x24 ((min (a0.bB.length:Int) (x24.2.1.bB.length:Int)).toNat)),_,_,Fr.to (q:=q) (p:=P0) ?_ u0 (by simp only [go_sem,seval,rP u0]),?_⟩
 ·simp only [go_sem]
 ·simp only [go_sem,k33]
theorem uD:∀n,nO (uL n)/\rD (CG n)/\tS (Gr n)
 | 0=>⟨λ_ _ _ _ _ h=>dH h,λ_ _ _ _ _ h=>dH h,λ_ _ _ _ _ h=>dH h⟩
 | n+1=>
   have ih:=uD n
   ⟨BY ih.2.1 n,zZ ih.1 ih.2.2 n,CN ih.1 n⟩
theorem DT (n:Nat):nO (uL n):=(uD n).1
def JF (f:aB->Option Bool):Prop:=∀a0 r,f a0=some r->AQ prog 60 [.agg ((aB.C a0))] (.lb r)
theorem IW:JF (vZ):=λa0 r h q m vs hv=>SC.wva hv (cY func60 call60 ntmps60 results60 rfl (wk (.j 2 1 19 [.v 2 Bool λy=>.lb y] [] [] [] none .z .z) q m (vZ.eq_1 _) h))
def Fv (f:aE->aG->Int->aB->Option (aE × aG)):Prop:=∀a0 a1 a2 a3 r,f a0 a1 a2 a3=some r->∀(q:Pa) (m:M) (vs:List V) (P0:Pa) (F0 fp0 S0 C0:V),vs.map V.weak1=[.ptr P0 0,.li a2,.agg ((aB.C a3))]/\m.blk P0=some (qU F0 fp0 S0 C0 a0 a1)/\eO F0 fp0 S0 C0 m.hp a0/\m.gl 0=.eptr [(cA bC.C cK)] 0 0->SC prog 28 vs q m (λv Y=>∃(fp S:V) (h:Hp) (vr:Nat->Nat),v=.tup []/\Y=m.ck P0 (qU F0 fp S C0 r.1 r.2) h vr/\eO F0 fp S C0 h r.1)
theorem Ez (n:Nat):Fv (lN n):=by
 rintro a0 a1 a2 a3 r h q m vs P0 F0 fp0 S0 C0 ⟨hv,w0,t0,hg0⟩;refine SC.wv hv ?_;refine SC.ap w0 λu0 l0=>?_
 try simp only [go_sem] at w0 l0
 refine sS func28 call28 ntmps28 results28 ?_;unfold lN at h;refine bL ?_;refine aO ?_;obtain ⟨x2,h3,h⟩:=aF h;refine dD λ_ z=>?_;simp only [go_sem,seval];refine SC.mono (vT n a0 a1 a2 _ h3 _ _ _ P0 F0 fp0 S0 C0 (by simp only [go_sem,seval,pU u0,t0,w0])) ?_;rintro _ _ ⟨fp_x2,S_x2,h_x2,vr_x2,rfl,rfl,hk_x2⟩;simp only [go_sem,seval];apply z;refine aO ?_;obtain ⟨⟨f4,f5⟩,h⟩:=bY h;refine lP ?_;refine cU ?_;obtain ⟨y10,j10,h⟩:=aF h;refine tQ (λc X Y=>∃v7 v8 v9 S_v8,jM n a3 c v7 v8 v9=some y10/\X 0=.ptr P0 0/\X 5=.ptr (0::q) 0/\X 18=.list .none ((a3.aL.drop (max (i64.wrap ((a3.aL.length:Int) - 1)) 0).toNat).map aB.C)/\X 19=.li ((a3.aL.drop (max (i64.wrap ((a3.aL.length:Int) - 1)) 0).toNat).length:Int)/\X 20=.li v7/\Y.blk P0=some (qU F0 fp_x2 S_v8 C0 v8 v9)/\eO F0 fp_x2 S_v8 C0 Y.hp v8/\Y.blk (0::q)=some ((aB.C a3))/\Y.gl=m.gl/\Fr q P0 m Y) n ⟨0,x2.1,x2.2,S_x2,j10,?_⟩ ?_
 ·simp only [go_sem,seval,pU u0,hk_x2]
 rintro i6 c11 E12 m13 ⟨v7,v8,v9,S_v8,j10,e14⟩ _
 rcases c11 with _ | c11
 ·cases j10
 rw [jM] at j10;have bv8:eO F0 fp_x2 S_v8 C0 m13.hp v8:=by simp only [e14]
 refine bL ?_;refine aO (dI j10 (λc15 j10=>?_) (λc15 j10=>?_))
 ·refine bP ?_
  refine aO (cU (aO ?_));obtain ⟨x16,h21,j10⟩:=aF j10;obtain ⟨f18,f19,f20⟩:=bI h21;refine lP ?_;refine aO ?_;obtain ⟨x22,h33,j10⟩:=aF j10;obtain ⟨f30,f31,f32⟩:=bI h33;obtain ⟨g23,d23,z23,k23⟩:=eO.foc bv8 f32;obtain ⟨p23,s34,s35,s36,s37,s38,s39,s40⟩:=k23.rows;have s41:=(eO.funcsR bv8);have s24:=eO.fpEq bv8 f30;have s42:eO F0 (.pp (rA F0) (v8.f_.toNat*6)) S_v8 C0 m13.hp v8:=by rw [←s24];exact bv8
  obtain ⟨x25,h43,j10⟩:=aF j10;refine dZ λ_ z=>?_;simp only [go_sem,seval,pU u0,s24,e14];refine SC.mono (DT n v8 v9 x16 true _ h43 _ _ _ P0 F0 fp_x2 S_v8 C0 (by simp only [go_sem,seval,pU u0,s24,s42,e14,hg0])) ?_;rintro _ _ ⟨S_x25,h_x25,vr_x25,rfl,rfl,hk_x25⟩;obtain ⟨x26,h47,j10⟩:=aF j10;obtain ⟨f44,f45,f46⟩:=bI h47;obtain ⟨g27,d27,z27,k27⟩:=eO.foc hk_x25 f46;obtain ⟨p27,s48,s49,s50,s51,s52,s53,s54⟩:=k27.rows;have k28:eO F0 fp_x2 S_x25 C0 (lE h_x25 (rA F0) (z27.set (v8.f_.toNat*6+5) (.list .none (x25.1.map aA.C)))) ({ x25.2.1 with p_:=⟨(x25.2.1.p_.aV.set v8.f_.toNat { x26 with bH:=x25.1 })⟩ }:aE):=JK.setBody k27 rfl rfl rfl rfl;have k29:eO F0 (.pp (rA F0) (v8.f_.toNat*6)) S_x25 C0 (lE h_x25 (rA F0) (z27.set (v8.f_.toNat*6+5) (.list .none (x25.1.map aA.C)))) ({ x25.2.1 with p_:=⟨(x25.2.1.p_.aV.set v8.f_.toNat { x26 with bH:=x25.1 })⟩ }:aE):=by rw [←s24];exact k28
  simp only [go_sem,seval,gG,s24,k27.hF,k27.len5];apply z;simp only [aK];obtain ⟨y55,j55,j10⟩:=aF j10;refine tK 31 (λX Y=>X 0=.ptr P0 0/\X 5=.ptr (0::q) 0/\X 18=.list .none ((a3.aL.drop (max (i64.wrap ((a3.aL.length:Int) - 1)) 0).toNat).map aB.C)/\X 19=.li ((a3.aL.drop (max (i64.wrap ((a3.aL.length:Int) - 1)) 0).toNat).length:Int)/\X 20=.li v7/\Y.blk P0=some (qU F0 fp_x2 S_x25 C0 ({ x25.2.1 with p_:=⟨(x25.2.1.p_.aV.set v8.f_.toNat { x26 with bH:=x25.1 })⟩ }:aE) y55)/\eO F0 fp_x2 S_x25 C0 Y.hp ({ x25.2.1 with p_:=⟨(x25.2.1.p_.aV.set v8.f_.toNat { x26 with bH:=x25.1 })⟩ }:aE)/\Y.blk (0::q)=some ((aB.C a3))/\Y.gl=m.gl/\Fr q P0 m Y/\Y.hp=(lE h_x25 (rA F0) (z27.set (v8.f_.toNat*6+5) (.list .none (x25.1.map aA.C))))) ?_ ?_
  ·obtain ⟨x56,h62,j55⟩:=aF j55;obtain ⟨f59,f60,f61⟩:=bI h62;obtain ⟨g57,d57,z57,k57⟩:=eO.foc k28 f61;obtain ⟨p57,s63,s64,s65,s66,s67,s68,s69⟩:=k57.rows;have k58:eO F0 (.pp (rA F0) (v8.f_.toNat*6)) S_x25 C0 (lE h_x25 (rA F0) (z27.set (v8.f_.toNat*6+5) (.list .none (x25.1.map aA.C)))) ({ x25.2.1 with p_:=⟨(x25.2.1.p_.aV.set v8.f_.toNat { x26 with bH:=x25.1 })⟩ }:aE):=by rw [←s24];exact k28
   rcases jR j55 with ⟨c70,j55⟩ | ⟨c70,j55⟩
   ·obtain ⟨x71,h72,j55⟩:=aF j55;refine dZ λ_ z=>?_;simp only [go_sem,seval,pU u0,s65,k57.hF,c70,e14];refine SC.bA (bG ({ x25.2.1 with p_:=⟨(x25.2.1.p_.aV.set v8.f_.toNat { x26 with bH:=x25.1 })⟩ }:aE) x25.2.2 true 135 a3.fM _ h72 _ _ _ P0 F0 fp_x2 S_x25 C0) ?_;simp only [go_sem,seval,s24];apply z;simp only [aK];cases j55;exact jD
   ·obtain ⟨x73,h75,j55⟩:=aF j55;obtain ⟨x74,h76,j55⟩:=aF j55;refine dZ λ_ z=>?_;simp only [go_sem,seval,pU u0,s65,k57.hF,c70,e14];refine SC.bA (IW x16 _ h75 _ _ _) ?_;simp only [go_sem,seval,pU u0,e14];refine SC.bA (bG ({ x25.2.1 with p_:=⟨(x25.2.1.p_.aV.set v8.f_.toNat { x26 with bH:=x25.1 })⟩ }:aE) x25.2.2 x73 135 a3.fM _ h76 _ _ _ P0 F0 fp_x2 S_x25 C0) ?_;simp only [go_sem,seval,s24];apply z;simp only [aK];cases j55;exact jD
  ·intro E77 m78 e79 _;simp only [aK,bU];refine lP ?_;refine ⟨c11,JO _,(i64.wrap (v7+1)),({ x25.2.1 with p_:=⟨(x25.2.1.p_.aV.set v8.f_.toNat { x26 with bH:=x25.1 })⟩ }:aE),y55,S_x25,j10,?_⟩;simp only [go_sem,seval,s24,k29,e79]
 ·refine jJ ?_
  try simp only [dB,cP,↓reduceIte]
  cases j10;cases h;refine ⟨by simp,?_⟩;simp only [go_sem,c15];refine ⟨fp_x2,S_v8,_,_,Fr.to (q:=q) (p:=P0) ?_ u0 (by simp only [go_sem,e14]),?_⟩
  ·simp only [go_sem,e14]
  ·simp only [go_sem,bv8]
