import Derived.Test.YtknbgnpeiohifaaGreatDoorGGFw
import Derived.Test.YtknbgnpeiohifaaGreatDoorGVt2
namespace Go.Proofs.YtknbgnpeiohifaaGreatDoor.Abs
open Go.RowKit Tryz
open IntKind (i64 u32 u64 u8)
set_option linter.all false
set_option maxRecDepth 10000
set_option maxHeartbeats 2000000
open Tryz
@[go_sem] theorem partZ:cU.Z=⟨[],[]⟩:=rI rfl
@[go_sem] theorem termZ:aF.Z=⟨0,0,[]⟩:=rI rfl
@[go_sem] theorem seth_hpG {m:M}:m.seth m.hp=m:=rI rfl
@[go_sem] theorem sf7 {q:Pa} {a b c d e f g:Nat}:(q <:+ a::b::c::d::e::f::g::q)=True:=eq_true (fR (fR (fR (fR (fR (fR (fR vQ)))))))
instance:MP aF.C 3:=⟨λx=>by rw [aF.C_eq];rfl⟩
instance:MP cU.C 2:=⟨λx=>by rw [cU.C_eq];rfl⟩
instance:iQ 9 (∀n,KJ (Ay n)):=⟨Pm⟩
def Ch (f:(List aA)->Option Int):Prop:=∀a0 r,f a0=some r->By prog 54 [.list .none (a0.map aA.C)] (.li r)
theorem MI {kR} (MD:Ch kR) (n:Nat):Ch (zO kR n):=haveI:iQ 54 (Ch kR):=⟨MD⟩;λa0 r h q m vs hv=>SC.wva hv (cH func54 call54 ntmps54 results54 rfl (wk (.l [.v 3 Int λy=>.li y,.v 8 Int λy=>.li y] [6,7] [] [] none (.c (.j 1 1 21 [.v 3 Int λy=>.li y] [6,7,8] [] [] none .z .z) .z) .z) q m (zO.eq_1 _ _ _) h))
theorem JG:∀n,Ch (Au n)
 | 0=>λ_ _ h=>cK h
 | n+1=>MI (JG n) n
def Bs (f:(List Int)->Int->Option (List Int)):Prop:=∀a0 a1 r,f a0 a1=some r->By prog 55 [.list .none (a0.map (cI .u32)),.li a1] (.list .exact (r.map (cI .u32)))
theorem AJ:Bs wI:=λa0 a1 r h q m vs hv=>Xt h q m vs hv
def Qw (f:Int->Option aF):Prop:=∀a0 r,f a0=some r->By prog 56 [.li a0] (.agg ((aF.C r)))
theorem On:Qw (Cc):=λa0 r h q m vs hv=>SC.wva hv (cH func56 call56 ntmps56 results56 rfl (wk .z q m (Cc.eq_1 _) h))
instance:iQ 56 (Qw Cc):=⟨On⟩
def AI (f:aF->Option Int):Prop:=∀a0 r,f a0=some r->By prog 64 [.agg ((aF.C a0))] (.li r)
theorem Nr {rQ} (Ny:AI rQ) (n:Nat):AI (AH rQ n):=haveI:iQ 64 (AI rQ):=⟨Ny⟩;λa0 r h q m vs hv=>SC.wva hv (cH func64 call64 ntmps64 results64 rfl (wk (.l [.v 3 Int λy=>.li y,.v 9 Int λy=>.li y] [7,8] [] [] none .z .z) q m (AH.eq_1 _ _ _) h))
theorem KG:∀n,AI (xY n)
 | 0=>λ_ _ h=>cK h
 | n+1=>Nr (KG n) n
instance:iQ 64 (∀n,AI (xY n)):=⟨KG⟩
def pW (f:aL->aB->Option Int):Prop:=∀a0 a1 r,f a0 a1=some r->∀(q:Pa) (m:M) (vs:List V) (T0:V),vs.map V.weak1=[.agg ([T0,.list .none (a0.gM.map (cI .i64)),.list .none (a0.tK.map (cI .u32)),.list .none (a0.kZ.map (cI .u32))]),.agg ((aB.C a1))]/\Rd m.hp T0 aF.C 3 a0.aX->SC prog 245 vs q m (λv Y=>v=.li r/\Y=m)
theorem Fq {iJ} (Fp:pW iJ) (n:Nat):pW (fL iJ n):=haveI:iQ 245 (pW iJ):=⟨Fp⟩;λa0 a1 r h q m vs T0 ⟨hv,hrd⟩=>SC.wva hv (by rcases Rd.cases hrd with ⟨rfl,_⟩ | ⟨_,rfl,_⟩ <;> exact cH func245 call245 ntmps245 results245 rfl (wk (.c .z (.l [.v 5 Int λy=>.li y,.v 21 Int λy=>.li y] [2,19,20] [2] [] none .z .z)) q m (fL.eq_1 _ _ _ _) h))
theorem Av:∀n,pW (jL n)
 | 0=>λ_ _ _ h=>cK h
 | n+1=>Fq (Av n) n
instance:iQ 245 (∀n,pW (jL n)):=⟨Av⟩
def MS (f:aF->(List Int)->Option Int):Prop:=∀a0 a1 r,f a0 a1=some r->By prog 99 [.agg ((aF.C a0)),.list .none (a1.map (cI .u32))] (.lw r)
theorem Rq:MS (Al):=λa0 a1 r h q m vs hv=>SC.wva hv (cH func99 call99 ntmps99 results99 rfl (wk .z q m (Al.eq_1 _ _) h))
instance:iQ 99 (MS Al):=⟨Rq⟩
def Lr (f:Bool->Option Int):Prop:=∀a0 r,f a0=some r->By prog 100 [.lb a0] (.lw r)
theorem PK:Lr (xX):=λa0 r h q m vs hv=>SC.wva hv (cH func100 call100 ntmps100 results100 rfl (wk .z q m (xX.eq_1 _) h))
instance:iQ 100 (Lr xX):=⟨PK⟩
def Oj (f:Int->Int->Option Int):Prop:=∀a0 a1 r,f a0 a1=some r->By prog 101 [.li a0,.lw a1] (.lw r)
theorem SQ:Oj (Ck):=λa0 a1 r h q m vs hv=>SC.wva hv (cH func101 call101 ntmps101 results101 rfl (wk .z q m (Ck.eq_1 _ _) h))
instance:iQ 101 (Oj Ck):=⟨SQ⟩
def zK (f:Int->Int->Option Int):Prop:=∀a0 a1 r,f a0 a1=some r->By prog 238 [.lw a0,.li a1] (.lw r)
theorem Fi:zK (mQ):=λa0 a1 r h q m vs hv=>SC.wva hv (cH func238 call238 ntmps238 results238 rfl (wk .z q m (mQ.eq_1 _ _) h))
instance:iQ 238 (zK mQ):=⟨Fi⟩
def Lt (f:Int->Int->Int->Option Int):Prop:=∀a0 a1 a2 r,f a0 a1 a2=some r->By prog 172 [.li a0,.lw a1,.lw a2] (.lw r)
theorem PN:Lt (wL):=λa0 a1 a2 r h q m vs hv=>SC.wva hv (cH func172 call172 ntmps172 results172 rfl (wk .z q m (wL.eq_1 _ _ _) h))
instance:iQ 172 (Lt wL):=⟨PN⟩
def Og (f:Int->Int->Int->Option (Int × Bool)):Prop:=∀a0 a1 a2 r,f a0 a1 a2=some r->By prog 102 [.li a0,.lw a1,.lw a2] (.tup [.lw r.1,.lb r.2])
theorem SO:Og (kO):=λa0 a1 a2 r h q m vs hv=>SC.wva hv (cH func102 call102 ntmps102 results102 rfl (wk .z q m (kO.eq_1 _ _ _) h))
instance:iQ 102 (Og kO):=⟨SO⟩
def Cp (f:aF->(List Int)->Option (Int × Bool)):Prop:=∀a0 a1 r,f a0 a1=some r->By prog 47 [.agg ((aF.C a0)),.list .none (a1.map (cI .u32))] (.tup [.lw r.1,.lb r.2])
theorem Om {xI} (OW:Cp xI) (n:Nat):Cp (lU xI n):=haveI:iQ 47 (Cp xI):=⟨OW⟩;λa0 a1 r h q m vs hv=>SC.wva hv (cH func47 call47 ntmps47 results47 rfl (wk (.c .z (.j 2 4 26 [.v 32 Bool λy=>.lb y] [1,2,6,7] [2] [] none .z .z)) q m (lU.eq_1 _ _ _ _) h))
theorem Lw:∀n,Cp (nJ n)
 | 0=>λ_ _ _ h=>cK h
 | n+1=>Om (Lw n) n
instance:iQ 47 (∀n,Cp (nJ n)):=⟨Lw⟩
def Qv (f:Int->Option aF):Prop:=∀a0 r,f a0=some r->By prog 287 [.lw a0] (.agg ((aF.C r)))
theorem UE:Qv (JT):=λa0 r h q m vs hv=>SC.wva hv (cH func287 call287 ntmps287 results287 rfl (wk .z q m (JT.eq_1 _) h))
instance:iQ 287 (Qv JT):=⟨UE⟩
def Cn (f:aF->Option aF):Prop:=∀a0 r,f a0=some r->By prog 246 [.agg ((aF.C a0))] (.agg ((aF.C r)))
theorem Ol {tV} (OV:Cn tV) (n:Nat):Cn (oG tV n):=haveI:iQ 246 (Cn tV):=⟨OV⟩;λa0 r h q m vs hv=>SC.wva hv (cH func246 call246 ntmps246 results246 rfl (wk (.l [.v 4 Bool λy=>.lb y,.v 21 Int λy=>.li y,.b 3 aF λy=>[.li y.dJ,.lw y.N_,.list .self (y.aN.map aF.C)]] [2,3,19,20] [2] [] none (.c (.j 2 8 23 [.v 4 Bool λy=>.lb y] [2,3,19,20,21] [2,3] [] none .z .z) .z) .z) q m (oG.eq_1 _ _ _) h))
theorem Lv:∀n,Cn (pY n)
 | 0=>λ_ _ h=>cK h
 | n+1=>Ol (Lv n) n
instance:iQ 246 (∀n,Cn (pY n)):=⟨Lv⟩
def Nb (f:cB->Option Int):Prop:=∀a0 r,f a0=some r->∀(q:Pa) (m:M) (vs:List V),vs.map V.weak1=[.ls a0]/\m.gl 4=.eptr [(cA bG.C cD)] 0 0->SC prog 286 vs q m (λv Y=>v=.li r/\Y=m)
theorem RL (n:Nat):Nb (DM n):=by
 rintro a0 r h q m vs ⟨hv,hg4⟩;refine SC.wv hv (wG func286 call286 ntmps286 results286 ?_);unfold DM at h;refine bW ?_;refine aR (bW ?_);refine dY ?_;obtain ⟨y3,j3,h⟩:=aH h;refine zR (λc X Y=>∃v2,yL a0 c v2=some y3/\X 0=.ls a0/\X 5=.agg ((cA bG.C cD))/\X 6=.li v2/\Y.gl=m.gl/\m.back q Y=m) n ⟨(0:Int),j3,?_⟩ ?_
 ·simp only [go_sem,seval,cN]
 rintro i1 c4 E5 m6 ⟨v2,j3,e7⟩ _
 rcases c4 with _ | c4
 ·cases j3
 rw [yL] at j3;refine bW ?_;refine aR (gD j3 (λc8 j3=>?_) (λc8 j3=>?_))
 ·refine dA ?_
  refine aR (dY (aR ?_));obtain ⟨x9,h14,j3⟩:=aH j3;obtain ⟨f11,f12,f13⟩:=bX h14;have f15:v2<(15:Int):=f12;obtain ⟨w16,d17⟩:=RY (f:=bG.C) (s:=2) (λ_ _=>rfl) f13;simp only [go_sem] at d17;refine oB ?_;refine bW ?_;refine gD j3 (λc18 j3=>?_) (λc18 j3=>?_)
  ·refine bW ?_;refine dI ?_
   try simp only [eN,nE]
   obtain rfl:=bS j3;simp only [Sum.elim_inr] at h;cases h;exact jS
  ·refine dA ?_
   try simp only [aV,cR]
   refine oB ?_;refine ⟨c4,Rh _,(i64.wrap (v2+(1:Int))),j3,?_⟩;simp only [go_sem,seval,cJ,e7]
 ·refine lM ?_
  try simp only [eH,dN,↓reduceIte,aV]
  obtain rfl:=bS j3;simp only [xed] at h;refine bW ?_;refine dI ?_;cases h;exact jS
instance:iQ 286 (∀n,Nb (DM n)):=⟨RL⟩
def qU (f:aL->aB->Option aF):Prop:=∀a0 a1 r,f a0 a1=some r->∀(q:Pa) (m:M) (vs:List V) (T0:V),vs.map V.weak1=[.agg ([T0,.list .none (a0.gM.map (cI .i64)),.list .none (a0.tK.map (cI .u32)),.list .none (a0.kZ.map (cI .u32))]),.agg ((aB.C a1))]/\m.gl 4=.eptr [(cA bG.C cD)] 0 0/\Rd m.hp T0 aF.C 3 a0.aX->SC prog 247 vs q m (λv Y=>v=.agg ((aF.C r))/\Y=m)
theorem Gw {iV} (Gv:qU iV) (n:Nat):qU (fZ iV n):=haveI:iQ 247 (qU iV):=⟨Gv⟩;λa0 a1 r h q m vs T0 ⟨hv,_,hrd⟩=>SC.wva hv (by rcases Rd.cases hrd with ⟨rfl,_⟩ | ⟨_,rfl,_⟩ <;> exact cH func247 call247 ntmps247 results247 rfl (wk (.c .z (.c .z (.l [.v 30 Int λy=>.li y,.b 5 aF λy=>[.li y.dJ,.lw y.N_,.list .self (y.aN.map aF.C)]] [2,4,5,28,29] [2,4] [] none .z .z))) q m (fZ.eq_1 _ _ _ _) h))
theorem Bj:∀n,qU (jW n)
 | 0=>λ_ _ _ h=>cK h
 | n+1=>Gw (Bj n) n
instance:iQ 247 (∀n,qU (jW n)):=⟨Bj⟩
def EI (f:aL->aB->Option (aF × Int)):Prop:=∀a0 a1 r,f a0 a1=some r->∀(q:Pa) (m:M) (vs:List V) (T0:V),vs.map V.weak1=[.agg ([T0,.list .none (a0.gM.map (cI .i64)),.list .none (a0.tK.map (cI .u32)),.list .none (a0.kZ.map (cI .u32))]),.agg ((aB.C a1))]/\m.gl 4=.eptr [(cA bG.C cD)] 0 0/\Rd m.hp T0 aF.C 3 a0.aX->SC prog 185 vs q m (λv Y=>v=.tup [.agg ((aF.C r.1)),.li r.2]/\Y=m)
theorem KA (n:Nat):EI (gO n):=λa0 a1 r h q m vs T0 ⟨hv,_,hrd⟩=>SC.wva hv (by rcases Rd.cases hrd with ⟨rfl,_⟩ | ⟨_,rfl,_⟩ <;> exact cH func185 call185 ntmps185 results185 rfl (wk .z q m (gO.eq_1 _ _ _) h))
instance:iQ 185 (∀n,EI (gO n)):=⟨KA⟩
def AQ (f:aO->aB->Option (aF × aO)):Prop:=∀a0 a1 r,f a0 a1=some r->∀(q:Pa) (m:M) (vs:List V) (P0:Pa) (W:Pa),vs.map V.weak1=[.ptr P0 0,.agg ((aB.C a1))]/\m.blk P0=some ([.vec W 3 a0.c_.aX.length,.list .self (a0.c_.gM.map (cI .i64)),.list .self (a0.c_.tK.map (cI .u32)),.list .self (a0.c_.kZ.map (cI .u32)),.li a0.e_])/\m.gl 4=.eptr [(cA bG.C cD)] 0 0/\m.hp W=some (a0.c_.aX.map aF.C).flatten->SC prog 111 vs q m (λv Y=>∃vr,v=.agg ((aF.C r.1))/\Y=m.ck P0 ([.vec W 3 r.2.c_.aX.length,.list .self (r.2.c_.gM.map (cI .i64)),.list .self (r.2.c_.tK.map (cI .u32)),.list .self (r.2.c_.kZ.map (cI .u32)),.li r.2.e_]) (qL m.hp W (r.2.c_.aX.map aF.C).flatten) vr)
theorem GW (n:Nat):AQ (mE n):=λa0 a1 r h q m vs P0 W ⟨hv,w0,_,hkW⟩=>SC.wva hv (SC.ac w0 λ_ _ _=>have hW0:=JX hkW;cH func111 call111 ntmps111 results111 rfl (wk .z q m (mE.eq_1 _ _ _) h))
instance:iQ 111 (∀n,AQ (mE n)):=⟨GW⟩
def pO (f:aO->aB->Option aO):Prop:=∀a0 a1 r,f a0 a1=some r->∀(q:Pa) (m:M) (vs:List V) (P0:Pa) (W:Pa),vs.map V.weak1=[.ptr P0 0,.agg ((aB.C a1))]/\m.blk P0=some ([.vec W 3 a0.c_.aX.length,.list .self (a0.c_.gM.map (cI .i64)),.list .self (a0.c_.tK.map (cI .u32)),.list .self (a0.c_.kZ.map (cI .u32)),.li a0.e_])/\m.gl 4=.eptr [(cA bG.C cD)] 0 0/\m.hp W=some (a0.c_.aX.map aF.C).flatten->SC prog 110 vs q m (λv Y=>∃vr,v=.tup []/\Y=m.ck P0 ([.vec W 3 r.c_.aX.length,.list .self (r.c_.gM.map (cI .i64)),.list .self (r.c_.tK.map (cI .u32)),.list .self (r.c_.kZ.map (cI .u32)),.li r.e_]) (qL m.hp W (r.c_.aX.map aF.C).flatten) vr)
theorem EX {iI} (Fl:pO iI) (n:Nat):pO (pN iI n):=haveI:iQ 110 (pO iI):=⟨Fl⟩;λa0 a1 r h q m vs P0 W ⟨hv,w0,_,hkW⟩=>SC.wva hv (SC.ac w0 λ_ _ _=>have hW0:=JX hkW;cH func110 call110 ntmps110 results110 rfl (wk (.l [.v 11 Int λy=>.li y,.w 0 aO (λy=>[.vec W 3 y.c_.aX.length,.list .self (y.c_.gM.map (cI .i64)),.list .self (y.c_.tK.map (cI .u32)),.list .self (y.c_.kZ.map (cI .u32)),.li y.e_]) λy h=>qL h W (y.c_.aX.map aF.C).flatten] [0,3,9,10] [3] [] (some P0) .z (.j 2 6 19 [.v 31 Bool λy=>.lb y] [0,3] [0,3] [] (some P0) .z (.c (.l [.v 35 Int λy=>.li y,.w 0 aO (λy=>[.vec W 3 y.c_.aX.length,.list .self (y.c_.gM.map (cI .i64)),.list .self (y.c_.tK.map (cI .u32)),.list .self (y.c_.kZ.map (cI .u32)),.li y.e_]) λy h=>qL h W (y.c_.aX.map aF.C).flatten] [0,33,34] [] [] (some P0) .z .z) .z))) q m (pN.eq_1 _ _ _ _) h))
theorem Ao:∀n,pO (mG n)
 | 0=>λ_ _ _ h=>cK h
 | n+1=>EX (Ao n) n
instance:iQ 110 (∀n,pO (mG n)):=⟨Ao⟩
def Qu (f:(List Int)->Int->Int->Option Int):Prop:=∀a0 a1 a2 r,f a0 a1 a2=some r->By prog 319 [.list .none (a0.map (cI .u32)),.lw a1,.lw a2] (.lw r)
theorem UC:Qu (HH):=λa0 a1 a2 r h q m vs hv=>SC.wva hv (cH func319 call319 ntmps319 results319 rfl (wk .z q m (HH.eq_1 _ _ _) h))
instance:iQ 319 (Qu HH):=⟨UC⟩
def FD (f:Int->Int->Int->Option (Int × Int)):Prop:=∀a0 a1 a2 r,f a0 a1 a2=some r->By prog 345 [.lw a0,.lw a1,.lw a2] (.tup [.lw r.1,.lw r.2])
theorem KW:FD (sX):=λa0 a1 a2 r h q m vs hv=>SC.wva hv (cH func345 call345 ntmps345 results345 rfl (wk .z q m (sX.eq_1 _ _ _) h))
instance:iQ 345 (FD sX):=⟨KW⟩
def Oh (f:bV->bV->Option bV):Prop:=∀a0 a1 r,f a0 a1=some r->∀(q:Pa) (m:M) (vs:List V),vs.map V.weak1=[.agg ((bV.C a0)),.agg ((bV.C a1))]/\m.gl 5=.eptr [[.lw 0,.lw 4294967295]] 0 0->SC prog 339 vs q m (λv Y=>v=.agg ((bV.C r))/\Y=m)
theorem SP:Oh (IY):=λa0 a1 r h q m vs ⟨hv,_⟩=>SC.wva hv (cH func339 call339 ntmps339 results339 rfl (wk .z q m (IY.eq_1 _ _) h))
instance:iQ 339 (Oh IY):=⟨SP⟩
def FC (f:Int->Int->Option (Int × Int)):Prop:=∀a0 a1 r,f a0 a1=some r->By prog 183 [.lw a0,.lw a1] (.tup [.lw r.1,.lw r.2])
theorem KV:FC (uX):=λa0 a1 r h q m vs hv=>SC.wva hv (cH func183 call183 ntmps183 results183 rfl (wk .z q m (uX.eq_1 _ _) h))
instance:iQ 183 (FC uX):=⟨KV⟩
def IZ (f:bV->bV->Option bV):Prop:=∀a0 a1 r,f a0 a1=some r->∀(q:Pa) (m:M) (vs:List V),vs.map V.weak1=[.agg ((bV.C a0)),.agg ((bV.C a1))]/\m.gl 5=.eptr [[.lw 0,.lw 4294967295]] 0 0->SC prog 340 vs q m (λv Y=>v=.agg ((bV.C r))/\Y=m)
theorem Nq:IZ (AG):=λa0 a1 r h q m vs ⟨hv,_⟩=>SC.wva hv (cH func340 call340 ntmps340 results340 rfl (wk .z q m (AG.eq_1 _ _) h))
instance:iQ 340 (IZ AG):=⟨Nq⟩
def KE (f:Int->bV->bV->Option bV):Prop:=∀a0 a1 a2 r,f a0 a1 a2=some r->∀(q:Pa) (m:M) (vs:List V),vs.map V.weak1=[.li a0,.agg ((bV.C a1)),.agg ((bV.C a2))]/\m.gl 5=.eptr [[.lw 0,.lw 4294967295]] 0 0->SC prog 320 vs q m (λv Y=>v=.agg ((bV.C r))/\Y=m)
theorem Of:KE (Ak):=λa0 a1 a2 r h q m vs ⟨hv,_⟩=>SC.wva hv (cH func320 call320 ntmps320 results320 rfl (wk .z q m (Ak.eq_1 _ _ _) h))
instance:iQ 320 (KE Ak):=⟨Of⟩
def AF (f:aF->(List Int)->(List Int)->Option bV):Prop:=∀a0 a1 a2 r,f a0 a1 a2=some r->∀(q:Pa) (m:M) (vs:List V),vs.map V.weak1=[.agg ((aF.C a0)),.list .none (a1.map (cI .u32)),.list .none (a2.map (cI .u32))]/\m.gl 5=.eptr [[.lw 0,.lw 4294967295]] 0 0->SC prog 288 vs q m (λv Y=>v=.agg ((bV.C r))/\Y=m)
theorem Np {vS} (Nx:AF vS) (n:Nat):AF (oZ vS n):=haveI:iQ 288 (AF vS):=⟨Nx⟩;λa0 a1 a2 r h q m vs ⟨hv,_⟩=>SC.wva hv (cH func288 call288 ntmps288 results288 rfl (wk .z q m (oZ.eq_1 _ _ _ _ _) h))
theorem KF:∀n,AF (wK n)
 | 0=>λ_ _ _ _ h=>cK h
 | n+1=>Np (KF n) n
instance:iQ 288 (∀n,AF (wK n)):=⟨KF⟩
def Lu (f:aF->(List Int)->(List Int)->Option (Int × Int)):Prop:=∀a0 a1 a2 r,f a0 a1 a2=some r->∀(q:Pa) (m:M) (vs:List V),vs.map V.weak1=[.agg ((aF.C a0)),.list .none (a1.map (cI .u32)),.list .none (a2.map (cI .u32))]/\m.gl 5=.eptr [[.lw 0,.lw 4294967295]] 0 0->SC prog 248 vs q m (λv Y=>v=.tup [.lw r.1,.lw r.2]/\Y=m)
theorem PP (n:Nat):Lu (DX n):=λa0 a1 a2 r h q m vs ⟨hv,_⟩=>SC.wva hv (cH func248 call248 ntmps248 results248 rfl (wk .z q m (DX.eq_1 _ _ _ _) h))
instance:iQ 248 (∀n,Lu (DX n)):=⟨PP⟩
def CT (f:aL->aB->Option (Int × Int)):Prop:=∀a0 a1 r,f a0 a1=some r->∀(q:Pa) (m:M) (vs:List V) (T0:V),vs.map V.weak1=[.agg ([T0,.list .none (a0.gM.map (cI .i64)),.list .none (a0.tK.map (cI .u32)),.list .none (a0.kZ.map (cI .u32))]),.agg ((aB.C a1))]/\m.gl 4=.eptr [(cA bG.C cD)] 0 0/\m.gl 5=.eptr [[.lw 0,.lw 4294967295]] 0 0/\Rd m.hp T0 aF.C 3 a0.aX->SC prog 186 vs q m (λv Y=>v=.tup [.lw r.1,.lw r.2]/\Y=m)
theorem IP (n:Nat):CT (fM n):=λa0 a1 r h q m vs T0 ⟨hv,_,_,hrd⟩=>SC.wva hv (by rcases Rd.cases hrd with ⟨rfl,_⟩ | ⟨_,rfl,_⟩ <;> exact cH func186 call186 ntmps186 results186 rfl (wk .z q m (fM.eq_1 _ _ _) h))
instance:iQ 186 (∀n,CT (fM n)):=⟨IP⟩
def AT (f:aO->aA->Option aO):Prop:=∀a0 a1 r,f a0 a1=some r->∀(q:Pa) (m:M) (vs:List V) (P0:Pa) (W:Pa),vs.map V.weak1=[.ptr P0 0,.agg ((aA.C a1))]/\m.blk P0=some ([.vec W 3 a0.c_.aX.length,.list .self (a0.c_.gM.map (cI .i64)),.list .self (a0.c_.tK.map (cI .u32)),.list .self (a0.c_.kZ.map (cI .u32)),.li a0.e_])/\m.gl 4=.eptr [(cA bG.C cD)] 0 0/\m.gl 5=.eptr [[.lw 0,.lw 4294967295]] 0 0/\m.hp W=some (a0.c_.aX.map aF.C).flatten->SC prog 112 vs q m (λv Y=>∃vr,v=.tup []/\Y=m.ck P0 ([.vec W 3 r.c_.aX.length,.list .self (r.c_.gM.map (cI .i64)),.list .self (r.c_.tK.map (cI .u32)),.list .self (r.c_.kZ.map (cI .u32)),.li r.e_]) (qL m.hp W (r.c_.aX.map aF.C).flatten) vr)
theorem GX (n:Nat):AT (mF n):=λa0 a1 r h q m vs P0 W ⟨hv,w0,_,_,hkW⟩=>SC.wva hv (SC.ac w0 λ_ _ _=>have hW0:=JX hkW;cH func112 call112 ntmps112 results112 rfl (wk .z q m (mF.eq_1 _ _ _) h))
instance:iQ 112 (∀n,AT (mF n)):=⟨GX⟩
def sS (f:aO->(List aA)->Option aO):Prop:=∀a0 a1 r,f a0 a1=some r->∀(q:Pa) (m:M) (vs:List V) (P0:Pa) (W:Pa),vs.map V.weak1=[.ptr P0 0,.list .none (a1.map aA.C)]/\m.blk P0=some ([.vec W 3 a0.c_.aX.length,.list .self (a0.c_.gM.map (cI .i64)),.list .self (a0.c_.tK.map (cI .u32)),.list .self (a0.c_.kZ.map (cI .u32)),.li a0.e_])/\m.gl 4=.eptr [(cA bG.C cD)] 0 0/\m.gl 5=.eptr [[.lw 0,.lw 4294967295]] 0 0/\m.hp W=some (a0.c_.aX.map aF.C).flatten->SC prog 57 vs q m (λv Y=>∃vr,v=.tup []/\Y=m.ck P0 ([.vec W 3 r.c_.aX.length,.list .self (r.c_.gM.map (cI .i64)),.list .self (r.c_.tK.map (cI .u32)),.list .self (r.c_.kZ.map (cI .u32)),.li r.e_]) (qL m.hp W (r.c_.aX.map aF.C).flatten) vr)
theorem Ek {eL} (EE:sS eL) (n:Nat):sS (oQ eL n):=haveI:iQ 57 (sS eL):=⟨EE⟩;λa0 a1 r h q m vs P0 W ⟨hv,w0,_,_,hkW⟩=>SC.wva hv (SC.ac w0 λ_ _ _=>have hW0:=JX hkW;cH func57 call57 ntmps57 results57 rfl (wk (.l [.v 11 Int λy=>.li y,.w 0 aO (λy=>[.vec W 3 y.c_.aX.length,.list .self (y.c_.gM.map (cI .i64)),.list .self (y.c_.tK.map (cI .u32)),.list .self (y.c_.kZ.map (cI .u32)),.li y.e_]) λy h=>qL h W (y.c_.aX.map aF.C).flatten] [0,9,10] [] [] (some P0) (.c (.j 11 1 36 [.w 0 aO (λy=>[.vec W 3 y.c_.aX.length,.list .self (y.c_.gM.map (cI .i64)),.list .self (y.c_.tK.map (cI .u32)),.list .self (y.c_.kZ.map (cI .u32)),.li y.e_]) λy h=>qL h W (y.c_.aX.map aF.C).flatten] [0,9,10,11] [] [] (some P0) (.l [.v 18 Int λy=>.li y,.w 0 aO (λy=>[.vec W 3 y.c_.aX.length,.list .self (y.c_.gM.map (cI .i64)),.list .self (y.c_.tK.map (cI .u32)),.list .self (y.c_.kZ.map (cI .u32)),.li y.e_]) λy h=>qL h W (y.c_.aX.map aF.C).flatten] [0,5,9,10,11,16,17] [5] [] (some P0) (.c (.j 1 3 50 [.w 0 aO (λy=>[.vec W 3 y.c_.aX.length,.list .self (y.c_.gM.map (cI .i64)),.list .self (y.c_.tK.map (cI .u32)),.list .self (y.c_.kZ.map (cI .u32)),.li y.e_]) λy h=>qL h W (y.c_.aX.map aF.C).flatten] [0,5,9,10,11,16,17,18] [5] [] (some P0) (.j 2 7 32 [.v 47 Bool λy=>.lb y] [0,5,7,9,10,11,16,17,18] [0,5,7] [] (some P0) .z .z) .z) .z) (.j 2 12 20 [.v 73 Bool λy=>.lb y] [0,5,9,10,11] [0,5] [] (some P0) .z .z)) .z) .z) .z) q m (oQ.eq_1 _ _ _ _) h))
theorem zG:∀n,sS (hY n)
 | 0=>λ_ _ _ h=>cK h
 | n+1=>Ek (zG n) n
def JH (f:aJ->Option (aL × Int)):Prop:=∀a0 r,f a0=some r->∀(q:Pa) (m:M) (vs:List V),vs.map V.weak1=[.agg ((aJ.C a0))]/\m.gl 4=.eptr [(cA bG.C cD)] 0 0/\m.gl 5=.eptr [[.lw 0,.lw 4294967295]] 0 0->SC prog 19 vs q m (λv Y=>v=.tup [.agg ((aL.C r.1)),.li r.2]/\Y=m)
theorem NB (n:Nat):JH (wT n):=by
 rintro a0 r h q m vs ⟨hv,hg4,hg5⟩;refine SC.wv hv ?_;refine SC.freshH λhfq=>?_;refine SC.hpq ?_;refine wG func19 call19 ntmps19 results19 ?_;unfold wT at h;refine aR (qC λK hK=>?_);simp only [go_sem,seval]
 first | apply hK | (refine ⟨zb,?_⟩;apply hK)
 simp only [aV];refine aR (aR ?_);obtain ⟨y3,j3,h⟩:=aH h;refine Bq 12 (λX Y=>X 1=.ptr (0::q) 0/\X 2=.ptr (1::q) 0/\X 15=.lb y3/\Y.blk (0::q)=some ((aJ.C a0))/\Y.blk (1::q)=some ([.list .self ([].map aF.C),.list .self ([].map (cI .i64)),.list .self ([].map (cI .u32)),.list .self ([].map (cI .u32))])/\Y.gl=m.gl/\Y.hp=m.hp/\m.back q Y=m) ?_ ?_
 ·rcases AZ j3 with ⟨c4,j3⟩ | ⟨c4,j3⟩
  ·refine qC λK hK=>?_;simp only [go_sem,seval,c4]
   first | apply hK | (refine ⟨zb,?_⟩;apply hK)
   simp only [aV];obtain rfl:=bS j3;exact jD
  ·obtain ⟨x5,h6,j3⟩:=aH j3;refine qC λK hK=>?_;simp only [go_sem,seval,c4];refine SC.bA (JG n a0.bH _ h6 _ _ _) ?_;simp only [go_sem,seval]
   first | apply hK | (refine ⟨zb,?_⟩;apply hK)
   simp only [aV];obtain rfl:=bS j3;exact jD
 ·intro E7 m8 e9 _;refine gD h (λc10 h=>?_) (λc10 h=>?_)
  ·refine aR (qC λK hK=>?_);simp only [go_sem,seval,e9]
   first | apply hK | (refine ⟨zb,?_⟩;apply hK)
   simp only [aV];refine dI ?_
   try simp only [eN]
   cases h;refine ⟨zd,?_⟩;simp only [go_sem,seval,cJ,eR,Mr,OZ hfq,e9]
  ·refine dA ?_
   refine aR ?_;obtain ⟨x11,h14,h⟩:=aH h;obtain ⟨⟨f15,f16⟩,h⟩:=cQ h;refine Az λf17=>?_;have f12:m.hp (15::q)=none:=by have:=f17 15 zb;simpa only [go_sem,↓reduceIte,Nat.reduceEqDiff,Nat.reduceAdd,Nat.reduceMul,Nat.reduceLT,Nat.reduceLeDiff,reduceCtorEq,Int.reduceLE,Int.reduceLT,Int.reduceToNat,UInt8.reduceToNat,Wl hfq,OZ hfq,c10,f15,f16,e9,hg4,hg5] using this
   refine jM λK hK=>?_;simp only [go_sem,seval,xdm,List.replicate_zero,f15,f16,e9];refine SC.bA (AJ [(4294967295:Int)] (4:Int) _ h14 _ _ _) ?_;simp only [go_sem,seval,GD,jP,f15,f16,e9]
   first | apply hK | (refine ⟨zb,?_⟩;apply hK)
   simp only [aV];refine SW_hnil (id:=(15::q)) (vs:=(List.replicate a0.aQ.length [.li 0,.lw 0,.nilv]).flatten) (vs':=((List.replicate a0.aQ.length aF.Z).map aF.C).flatten) (by simp only [go_sem,seval]) (BJ.mk (f:=aF.C) (z:=aF.Z) (by rw [show aF.C aF.Z=[.li 0,.lw 0,.list .none []] from by rw [aF.C_eq];rfl];exact ⟨.inl rfl,.inl rfl,.inr ⟨rfl,rfl⟩,trivial⟩) a0.aQ.length) ?_;refine aR (aR ?_);obtain ⟨⟨f18,f19⟩,h⟩:=cQ h;refine qC λK hK=>?_;simp only [go_sem,seval,f18,f19,e9]
   first | apply hK | (refine ⟨zb,?_⟩;apply hK)
   simp only [aV];refine dY ?_;obtain ⟨y23,j23,h⟩:=aH h;refine zR (λc X Y=>∃v21 v22,uY a0 c v21 v22=some y23/\X 1=.ptr (0::q) 0/\X 2=.ptr (1::q) 0/\X 4=.ptr (21::q) 0/\X 31=.list .none ((a0.aQ.take a0.aT.toNat).map aK.C)/\X 32=.li ((a0.aQ.take a0.aT.toNat).length:Int)/\X 33=.li v21/\Y.blk (21::q)=some ([.vec (15::q) 3 v22.c_.aX.length,.list .self (v22.c_.gM.map (cI .i64)),.list .self (v22.c_.tK.map (cI .u32)),.list .self (v22.c_.kZ.map (cI .u32)),.li v22.e_])/\Y.blk (0::q)=some ((aJ.C a0))/\Y.blk (1::q)=some ([.list .self ([].map aF.C),.list .self ([].map (cI .i64)),.list .self ([].map (cI .u32)),.list .self ([].map (cI .u32))])/\Y.gl=m.gl/\Y.hp=qL m.hp (15::q) (v22.c_.aX.map aF.C).flatten/\(m.back q Y).seth m.hp=m) n ⟨(0:Int),(aO.mk (aL.mk (List.replicate a0.aQ.length aF.Z) [] [(0:Int),(0:Int),(0:Int),(0:Int)] x11) (0:Int)),j23,?_⟩ ?_
   ·simp only [go_sem,seval,cJ,xeb,DS,Mr,e9]
   rintro i20 c24 E25 m26 ⟨v21,v22,j23,e27⟩ _
   rcases c24 with _ | c24
   ·cases j23
   rw [uY] at j23;refine aR (qC λK hK=>?_);simp only [go_sem,e27]
   first | apply hK | (refine ⟨zb,?_⟩;apply hK)
   simp only [aV];refine aR (gD j23 (λc28 j23=>?_) (λc28 j23=>?_))
   ·refine dA ?_
    refine aR ?_;obtain ⟨y29,j29,j23⟩:=aH j23;refine Bq 20 (λX Y=>X 1=.ptr (0::q) 0/\X 2=.ptr (1::q) 0/\X 4=.ptr (21::q) 0/\X 31=.list .none ((a0.aQ.take a0.aT.toNat).map aK.C)/\X 32=.li ((a0.aQ.take a0.aT.toNat).length:Int)/\X 33=.li v21/\Y.blk (21::q)=some ([.vec (15::q) 3 y29.c_.aX.length,.list .self (y29.c_.gM.map (cI .i64)),.list .self (y29.c_.tK.map (cI .u32)),.list .self (y29.c_.kZ.map (cI .u32)),.li y29.e_])/\Y.blk (0::q)=some ((aJ.C a0))/\Y.blk (1::q)=some ([.list .self ([].map aF.C),.list .self ([].map (cI .i64)),.list .self ([].map (cI .u32)),.list .self ([].map (cI .u32))])/\Y.gl=m.gl/\Y.hp=qL m.hp (15::q) (y29.c_.aX.map aF.C).flatten/\(m.back q Y).seth m.hp=m) ?_ ?_
    ·refine dY (aR ?_);obtain ⟨x30,h35,j29⟩:=aH j29;obtain ⟨f32,f33,f34⟩:=bX h35;refine qC λK hK=>?_;simp only [go_sem,seval,f32,f33,f34,e27]
     first | apply hK | (refine ⟨zb,?_⟩;apply hK)
     simp only [aV];refine aR (qC λK hK=>?_);simp only [go_sem,seval]
     first | apply hK | (refine ⟨zb,?_⟩;apply hK)
     simp only [aV];refine gD j29 (λc36 j29=>?_) (λc36 j29=>?_)
     ·obtain ⟨x37,h39,j29⟩:=aH j29;obtain ⟨x38,h43,j29⟩:=aH j29;obtain ⟨f40,f41,f42⟩:=bX h43;obtain ⟨w44,d45⟩:=TO (f:=aF.C) (sz:=3) (λx=>by rw [aF.C_eq];rfl) f42;simp only [go_sem] at d45;have f46:(3<=w44.length+1+1+1)=True:=eq_true zb;have d47:=TP (f:=aF.C) (sz:=3) (λx=>by rw [aF.C_eq];rfl) (l:=v22.c_.aX) (i:=v21.toNat) (by have:=f40;have:=f41;omega) x37;simp only [go_sem] at d47;have f48:=flat_le (f:=aF.C) (sz:=3) (l:=v22.c_.aX) (λx=>by rw [aF.C_eq];rfl) (i:=v21.toNat) (by have:=f40;have:=f41;omega);refine jM λK hK=>?_;simp only [go_sem,seval,c36,e27];refine SC.bA (On v21 _ h39 _ _ _) ?_;simp only [go_sem,seval,jP,f32,f41,d47,e27]
      first | apply hK | (refine ⟨zb,?_⟩;apply hK)
      simp only [aV,cR];obtain rfl:=bS j29;refine ⟨zc,?_⟩;simp only [go_sem,seval,cJ,Db,DS,e27]
     ·refine dA ?_
      try simp only [aV,cR]
      obtain rfl:=bS j29;exact jD
    ·intro E49 m50 e51 _;refine qC λK hK=>?_;simp only [go_sem,seval,e51]
     first | apply hK | (refine ⟨zb,?_⟩;apply hK)
     simp only [aV];refine ⟨c24,Rh _,(i64.wrap (v21+(1:Int))),y29,j23,?_⟩;simp only [go_sem,seval,e51]
   ·refine lM ?_
    try simp only [eH,dN,↓reduceIte,aV]
    obtain rfl:=bS j23;refine aR ?_;obtain ⟨x52,h53,h⟩:=aH h;refine qC λK hK=>?_;simp only [go_sem,seval,c28,e27];refine SC.mono (zG n v22 a0.bH _ h53 _ _ _ (21::q) (15::q) (by simp only [go_sem,seval,e27,hg4,hg5])) ?_;rintro _ _ ⟨vr_x52,rfl,rfl⟩;simp only [go_sem,seval,e27]
    first | apply hK | (refine ⟨zb,?_⟩;apply hK)
    simp only [aV];refine aR (aR (qC λK hK=>?_));simp only [go_sem,seval,e27]
    first | apply hK | (refine ⟨zb,?_⟩;apply hK)
    simp only [aV];refine gD h (λc54 h=>?_) (λc54 h=>?_)
    ·refine aR (jM λK hK=>?_);simp only [go_sem,seval,c54,e27]
     first | apply hK | (refine ⟨zb,?_⟩;apply hK)
     simp only [aV];refine dI ?_
     try simp only [eN]
     cases h;refine ⟨zd,?_⟩;simp only [go_sem,seval,cJ,eR,Wl hfq,e27]
    ·refine dA ?_
     refine aR (SW_frz (p:=(21::q)) (id:=(15::q)) (cs:=[.vec (15::q) 3 x52.c_.aX.length,.list .self (x52.c_.gM.map (cI .i64)),.list .self (x52.c_.tK.map (cI .u32)),.list .self (x52.c_.kZ.map (cI .u32)),.li x52.e_]) (off:=0) (sz:=3) (f:=aF.C) (l:=x52.c_.aX) (h0:=m.hp) (by simp only [go_sem,seval]) rfl (by rfl) (by simp only [go_sem]) f12 (λx=>by rw [aF.C_eq];rfl) zc ?_);refine qC λK hK=>?_;simp only [go_sem,seval,c54,e27]
     first | apply hK | (refine ⟨zb,?_⟩;apply hK)
     simp only [aV];refine dI ?_;cases h;refine ⟨zd,?_⟩;simp only [go_sem,seval,cJ,DS,Mr,OZ hfq,e27]
instance:iQ 19 (∀n,JH (wT n)):=⟨NB⟩
def CD (f:eM->Int->Option (Int × eM)):Prop:=∀a0 a1 r,f a0 a1=some r->∀(q:Pa) (m:M) (vs:List V) (P0:Pa),vs.map V.weak1=[.ptr P0 0,.li a1]/\m.blk P0=some ((eM.C a0))->SC prog 113 vs q m (λv Y=>v=.li r.1/\Y=(m.set P0 ((eM.C r.2))))
theorem IH:CD (mD):=λa0 a1 r h q m vs P0 ⟨hv,w0⟩=>SC.wva hv (SC.ac w0 λ_ _ _=>cH func113 call113 ntmps113 results113 rfl (wk .z q m (mD.eq_1 _ _) h))
instance:iQ 113 (CD mD):=⟨IH⟩
def LR (f:aJ->aL->Int->Option Int):Prop:=∀a0 a1 a2 r,f a0 a1 a2=some r->By prog 114 [.agg ((aJ.C a0)),.agg ((aL.C a1)),.li a2] (.li r)
theorem Qg:LR (BU):=λa0 a1 a2 r h q m vs hv=>SC.wva hv (cH func114 call114 ntmps114 results114 rfl (wk (.j 2 2 23 [.v 13 Bool λy=>.lb y] [2,3,7] [3,7] [] none .z (.c .z (.c .z (.j 2 6 37 [.v 30 Bool λy=>.lb y] [7] [7] [] none .z .z)))) q m (BU.eq_1 _ _ _) h))
instance:iQ 114 (LR BU):=⟨Qg⟩
def LT (f:aJ->Option Int):Prop:=∀a0 r,f a0=some r->By prog 115 [.agg ((aJ.C a0))] (.li r)
theorem Qh:LT (BV):=λa0 r h q m vs hv=>SC.wva hv (cH func115 call115 ntmps115 results115 rfl (wk .z q m (BV.eq_1 _) h))
instance:iQ 115 (LT BV):=⟨Qh⟩
def Ni (f:aJ->aL->Option (aP × Int)):Prop:=∀a0 a1 r,f a0 a1=some r->By prog 58 [.agg ((aJ.C a0)),.agg ((aL.C a1))] (.tup [.agg ((aP.C r.1)),.li r.2])
theorem RR (n:Nat):Ni (DO n):=λa0 a1 r h q m vs hv=>SC.wva hv (cH func58 call58 ntmps58 results58 rfl (wk (.l [.v 14 Int λy=>.li y,.b 6 eM λy=>(eM.C y),.b 7 aP λy=>[.list .self (y.zS.map (cI .i64)),.list .self (y.xQ.map (cI .i64)),.li y.bO,.li y.KL]] [2,3,4,6,7,13] [2,3,4] [] none .z (.l [.v 32 Int λy=>.li y,.b 6 eM λy=>(eM.C y),.b 7 aP λy=>[.list .self (y.zS.map (cI .i64)),.list .self (y.xQ.map (cI .i64)),.li y.bO,.li y.KL]] [2,4,6,7,31] [2,4] [] none .z .z)) q m (DO.eq_1 _ _ _) h))
instance:iQ 58 (∀n,Ni (DO n)):=⟨RR⟩
def Dq (f:aI->Option aI):Prop:=∀a0 r,f a0=some r->∀(q:Pa) (m:M) (vs:List V) (P0:Pa),vs.map V.weak1=[.ptr P0 0]/\m.blk P0=some ((aJ.C a0.f_)++(aL.C a0.c_)++(aP.C a0.x_)++[.list .self (a0.p_.iH.map bY.C),.list .self (a0.p_.cO.map bL.C),.li a0.dK,.li a0.cW,.li a0.e_])->SC prog 189 vs q m (λv Y=>∃vr,v=.tup []/\Y=m.ck P0 ((aJ.C r.f_)++(aL.C r.c_)++(aP.C r.x_)++[.list .self (r.p_.iH.map bY.C),.list .self (r.p_.cO.map bL.C),.li r.dK,.li r.cW,.li r.e_]) m.hp vr)
theorem Js:Dq (kE):=λa0 r h q m vs P0 ⟨hv,w0⟩=>SC.wva hv (SC.ac w0 λ_ _ _=>cH func189 call189 ntmps189 results189 rfl (wk .z q m (kE.eq_1 _) h))
instance:iQ 189 (Dq kE):=⟨Js⟩
def SH (f:Int->Option Bool):Prop:=∀a0 r,f a0=some r->By prog 118 [.li a0] (.lb r)
theorem WU:SH (Rl):=λa0 r h q m vs hv=>SC.wva hv (cH func118 call118 ntmps118 results118 rfl (wk (.j 2 1 8 [.v 2 Bool λy=>.lb y] [] [] [] none .z .z) q m (Rl.eq_1 _) h))
instance:iQ 118 (SH Rl):=⟨WU⟩
def Oa (f:Int->Option bT):Prop:=∀a0 r,f a0=some r->∀(q:Pa) (m:M) (vs:List V),vs.map V.weak1=[.li a0]/\m.gl 1=.eptr [(cA bT.C dW)] 0 0->SC prog 117 vs q m (λv Y=>v=.agg ((bT.C r))/\Y=m)
theorem SI:Oa (Lq):=λa0 r h q m vs ⟨hv,_⟩=>SC.wva hv (cH func117 call117 ntmps117 results117 rfl (wk .z q m (Lq.eq_1 _) h))
instance:iQ 117 (Oa Lq):=⟨SI⟩
def MQ (f:Int->Option (Int × Int)):Prop:=∀a0 r,f a0=some r->∀(q:Pa) (m:M) (vs:List V),vs.map V.weak1=[.li a0]/\m.gl 1=.eptr [(cA bT.C dW)] 0 0->SC prog 289 vs q m (λv Y=>v=.tup [.li r.1,.li r.2]/\Y=m)
theorem Rm:MQ (sJ):=λa0 r h q m vs ⟨hv,_⟩=>SC.wva hv (cH func289 call289 ntmps289 results289 rfl (wk .z q m (sJ.eq_1 _) h))
instance:iQ 289 (MQ sJ):=⟨Rm⟩
def Ob (f:Int->Int->(List Int)->(List Int)->Option bY):Prop:=∀a0 a1 a2 a3 r,f a0 a1 a2 a3=some r->By prog 290 [.li a0,.lw a1,.list .none (a2.map (cI .i64)),.list .none (a3.map (cI .i64))] (.agg ((bY.C r)))
theorem SJ:Ob Oc:=λa0 a1 a2 a3 r h q m vs hv=>make_sc h q m vs hv
instance:iQ 290 (Ob Oc):=⟨SJ⟩
def GP (f:aI->Int->Int->(List Int)->Option ((List Int) × aI)):Prop:=∀a0 a1 a2 a3 r,f a0 a1 a2 a3=some r->∀(q:Pa) (m:M) (vs:List V) (P0:Pa),vs.map V.weak1=[.ptr P0 0,.li a1,.lw a2,.list .none (a3.map (cI .i64))]/\m.blk P0=some ((aJ.C a0.f_)++(aL.C a0.c_)++(aP.C a0.x_)++[.list .self (a0.p_.iH.map bY.C),.list .self (a0.p_.cO.map bL.C),.li a0.dK,.li a0.cW,.li a0.e_])/\m.gl 1=.eptr [(cA bT.C dW)] 0 0->SC prog 249 vs q m (λv Y=>∃vr,v=.list .none (r.1.map (cI .i64))/\Y=m.ck P0 ((aJ.C r.2.f_)++(aL.C r.2.c_)++(aP.C r.2.x_)++[.list .self (r.2.p_.iH.map bY.C),.list .self (r.2.p_.cO.map bL.C),.li r.2.dK,.li r.2.cW,.li r.2.e_]) m.hp vr)
theorem LJ (n:Nat):GP (fJ n):=λa0 a1 a2 a3 r h q m vs P0 ⟨hv,w0,_⟩=>SC.wva hv (SC.ac w0 λ_ _ _=>cH func249 call249 ntmps249 results249 rfl (wk (.s 11 (.l [.o 11 (List Int) λy=>(y.map (cI .i64)),.v 18 Int λy=>.li y,.b 0 aI λy=>(aJ.C y.f_)++(aL.C y.c_)++(aP.C y.x_)++[.list .self (y.p_.iH.map bY.C),.list .self (y.p_.cO.map bL.C),.li y.dK,.li y.cW,.li y.e_]] [0,1,2,3,17] [] [] (some P0) .z .z)) q m (fJ.eq_1 _ _ _ _ _) h))
instance:iQ 249 (∀n,GP (fJ n)):=⟨LJ⟩
def FA (f:aI->Int->Int->(List Int)->Option (Int × aI)):Prop:=∀a0 a1 a2 a3 r,f a0 a1 a2 a3=some r->∀(q:Pa) (m:M) (vs:List V) (P0:Pa),vs.map V.weak1=[.ptr P0 0,.li a1,.lw a2,.list .none (a3.map (cI .i64))]/\m.blk P0=some ((aJ.C a0.f_)++(aL.C a0.c_)++(aP.C a0.x_)++[.list .self (a0.p_.iH.map bY.C),.list .self (a0.p_.cO.map bL.C),.li a0.dK,.li a0.cW,.li a0.e_])/\m.gl 1=.eptr [(cA bT.C dW)] 0 0->SC prog 252 vs q m (λv Y=>∃vr,v=.li r.1/\Y=m.ck P0 ((aJ.C r.2.f_)++(aL.C r.2.c_)++(aP.C r.2.x_)++[.list .self (r.2.p_.iH.map bY.C),.list .self (r.2.p_.cO.map bL.C),.li r.2.dK,.li r.2.cW,.li r.2.e_]) m.hp vr)
theorem KT (n:Nat):FA (aY n):=λa0 a1 a2 a3 r h q m vs P0 ⟨hv,w0,_⟩=>SC.wva hv (SC.ac w0 λ_ _ _=>cH func252 call252 ntmps252 results252 rfl (wk .z q m (aY.eq_1 _ _ _ _ _) h))
instance:iQ 252 (∀n,FA (aY n)):=⟨KT⟩
def AP (f:aI->aB->Option (Int × Bool)):Prop:=∀a0 a1 r,f a0 a1=some r->∀(q:Pa) (m:M) (vs:List V) (P0:Pa),vs.map V.weak1=[.ptr P0 0,.agg ((aB.C a1))]/\m.blk P0=some ((aJ.C a0.f_)++(aL.C a0.c_)++(aP.C a0.x_)++[.list .self (a0.p_.iH.map bY.C),.list .self (a0.p_.cO.map bL.C),.li a0.dK,.li a0.cW,.li a0.e_])/\m.gl 4=.eptr [(cA bG.C cD)] 0 0->SC prog 291 vs q m (λv Y=>v=.tup [.lw r.1,.lb r.2]/\Y=m)
theorem GR (n:Nat):AP (mA n):=λa0 a1 r h q m vs P0 ⟨hv,w0,_⟩=>SC.wva hv (SC.ac w0 λ_ _ _=>cH func291 call291 ntmps291 results291 rfl (wk .z q m (mA.eq_1 _ _ _) h))
instance:iQ 291 (∀n,AP (mA n)):=⟨GR⟩
def Bl (f:aL->aB->Int->Option Bool):Prop:=∀a0 a1 a2 r,f a0 a1 a2=some r->∀(q:Pa) (m:M) (vs:List V),vs.map V.weak1=[.agg ((aL.C a0)),.agg ((aB.C a1)),.li a2]/\m.gl 4=.eptr [(cA bG.C cD)] 0 0/\m.gl 5=.eptr [[.lw 0,.lw 4294967295]] 0 0->SC prog 299 vs q m (λv Y=>v=.lb r/\Y=m)
theorem Hv (n:Nat):Bl (sG n):=λa0 a1 a2 r h q m vs ⟨hv,_,_⟩=>SC.wva hv (cH func299 call299 ntmps299 results299 rfl (wk .z q m (sG.eq_1 _ _ _ _) h))
instance:iQ 299 (∀n,Bl (sG n)):=⟨Hv⟩
def Eg (f:aI->bL->Option aI):Prop:=∀a0 a1 r,f a0 a1=some r->∀(q:Pa) (m:M) (vs:List V) (P0:Pa),vs.map V.weak1=[.ptr P0 0,.agg ((bL.C a1))]/\m.blk P0=some ((aJ.C a0.f_)++(aL.C a0.c_)++(aP.C a0.x_)++[.list .self (a0.p_.iH.map bY.C),.list .self (a0.p_.cO.map bL.C),.li a0.dK,.li a0.cW,.li a0.e_])->SC prog 300 vs q m (λv Y=>∃vr,v=.tup []/\Y=m.ck P0 ((aJ.C r.f_)++(aL.C r.c_)++(aP.C r.x_)++[.list .self (r.p_.iH.map bY.C),.list .self (r.p_.cO.map bL.C),.li r.dK,.li r.cW,.li r.e_]) m.hp vr)
theorem Ku:Eg (jE):=λa0 a1 r h q m vs P0 ⟨hv,w0⟩=>SC.wva hv (SC.ac w0 λ_ _ _=>cH func300 call300 ntmps300 results300 rfl (wk .z q m (jE.eq_1 _ _) h))
instance:iQ 300 (Eg jE):=⟨Ku⟩
def Cz (f:aI->aB->Int->Int->Option aI):Prop:=∀a0 a1 a2 a3 r,f a0 a1 a2 a3=some r->∀(q:Pa) (m:M) (vs:List V) (P0:Pa),vs.map V.weak1=[.ptr P0 0,.agg ((aB.C a1)),.li a2,.li a3]/\m.blk P0=some ((aJ.C a0.f_)++(aL.C a0.c_)++(aP.C a0.x_)++[.list .self (a0.p_.iH.map bY.C),.list .self (a0.p_.cO.map bL.C),.li a0.dK,.li a0.cW,.li a0.e_])/\m.gl 1=.eptr [(cA bT.C dW)] 0 0/\m.gl 4=.eptr [(cA bG.C cD)] 0 0/\m.gl 5=.eptr [[.lw 0,.lw 4294967295]] 0 0->SC prog 254 vs q m (λv Y=>∃vr,v=.tup []/\Y=m.ck P0 ((aJ.C r.f_)++(aL.C r.c_)++(aP.C r.x_)++[.list .self (r.p_.iH.map bY.C),.list .self (r.p_.cO.map bL.C),.li r.dK,.li r.cW,.li r.e_]) m.hp vr)
theorem IA (n:Nat):Cz (oF n):=λa0 a1 a2 a3 r h q m vs P0 ⟨hv,w0,_,_,_⟩=>SC.wva hv (SC.ac w0 λ_ _ _=>cH func254 call254 ntmps254 results254 rfl (wk .z q m (oF.eq_1 _ _ _ _ _) h))
instance:iQ 254 (∀n,Cz (oF n)):=⟨IA⟩
def BI (f:aI->Int->Option (Int × aI)):Prop:=∀a0 a1 r,f a0 a1=some r->∀(q:Pa) (m:M) (vs:List V) (P0:Pa),vs.map V.weak1=[.ptr P0 0,.li a1]/\m.blk P0=some ((aJ.C a0.f_)++(aL.C a0.c_)++(aP.C a0.x_)++[.list .self (a0.p_.iH.map bY.C),.list .self (a0.p_.cO.map bL.C),.li a0.dK,.li a0.cW,.li a0.e_])/\m.gl 1=.eptr [(cA bT.C dW)] 0 0->SC prog 255 vs q m (λv Y=>∃vr,v=.li r.1/\Y=m.ck P0 ((aJ.C r.2.f_)++(aL.C r.2.c_)++(aP.C r.2.x_)++[.list .self (r.2.p_.iH.map bY.C),.list .self (r.2.p_.cO.map bL.C),.li r.2.dK,.li r.2.cW,.li r.2.e_]) m.hp vr)
theorem Ie (n:Nat):BI (nD n):=λa0 a1 r h q m vs P0 ⟨hv,w0,_⟩=>SC.wva hv (SC.ac w0 λ_ _ _=>cH func255 call255 ntmps255 results255 rfl (wk .z q m (nD.eq_1 _ _ _) h))
instance:iQ 255 (∀n,BI (nD n)):=⟨Ie⟩
def GT (f:aI->cB->Int->Int->Option (Int × aI)):Prop:=∀a0 a1 a2 a3 r,f a0 a1 a2 a3=some r->∀(q:Pa) (m:M) (vs:List V) (P0:Pa),vs.map V.weak1=[.ptr P0 0,.ls a1,.li a2,.lw a3]/\m.blk P0=some ((aJ.C a0.f_)++(aL.C a0.c_)++(aP.C a0.x_)++[.list .self (a0.p_.iH.map bY.C),.list .self (a0.p_.cO.map bL.C),.li a0.dK,.li a0.cW,.li a0.e_])/\m.gl 1=.eptr [(cA bT.C dW)] 0 0->SC prog 322 vs q m (λv Y=>∃vr,v=.li r.1/\Y=m.ck P0 ((aJ.C r.2.f_)++(aL.C r.2.c_)++(aP.C r.2.x_)++[.list .self (r.2.p_.iH.map bY.C),.list .self (r.2.p_.cO.map bL.C),.li r.2.dK,.li r.2.cW,.li r.2.e_]) m.hp vr)
theorem LM (n:Nat):GT (rY n):=λa0 a1 a2 a3 r h q m vs P0 ⟨hv,w0,_⟩=>SC.wva hv (SC.ac w0 λ_ _ _=>cH func322 call322 ntmps322 results322 rfl (wk .z q m (rY.eq_1 _ _ _ _ _) h))
instance:iQ 322 (∀n,GT (rY n)):=⟨LM⟩
def CB (f:aI->Int->Int->Int->Int->Option (Int × aI)):Prop:=∀a0 a1 a2 a3 a4 r,f a0 a1 a2 a3 a4=some r->∀(q:Pa) (m:M) (vs:List V) (P0:Pa),vs.map V.weak1=[.ptr P0 0,.li a1,.lw a2,.li a3,.lw a4]/\m.blk P0=some ((aJ.C a0.f_)++(aL.C a0.c_)++(aP.C a0.x_)++[.list .self (a0.p_.iH.map bY.C),.list .self (a0.p_.cO.map bL.C),.li a0.dK,.li a0.cW,.li a0.e_])/\m.gl 1=.eptr [(cA bT.C dW)] 0 0->SC prog 346 vs q m (λv Y=>∃vr,v=.li r.1/\Y=m.ck P0 ((aJ.C r.2.f_)++(aL.C r.2.c_)++(aP.C r.2.x_)++[.list .self (r.2.p_.iH.map bY.C),.list .self (r.2.p_.cO.map bL.C),.li r.2.dK,.li r.2.cW,.li r.2.e_]) m.hp vr)
theorem IE (n:Nat):CB (iA n):=λa0 a1 a2 a3 a4 r h q m vs P0 ⟨hv,w0,_⟩=>SC.wva hv (SC.ac w0 λ_ _ _=>cH func346 call346 ntmps346 results346 rfl (wk .z q m (iA.eq_1 _ _ _ _ _ _) h))
instance:iQ 346 (∀n,CB (iA n)):=⟨IE⟩
def GN (f:aI->Int->Int->Int->Option (Int × Int × aI)):Prop:=∀a0 a1 a2 a3 r,f a0 a1 a2 a3=some r->∀(q:Pa) (m:M) (vs:List V) (P0:Pa),vs.map V.weak1=[.ptr P0 0,.li a1,.li a2,.lw a3]/\m.blk P0=some ((aJ.C a0.f_)++(aL.C a0.c_)++(aP.C a0.x_)++[.list .self (a0.p_.iH.map bY.C),.list .self (a0.p_.cO.map bL.C),.li a0.dK,.li a0.cW,.li a0.e_])/\m.gl 1=.eptr [(cA bT.C dW)] 0 0->SC prog 341 vs q m (λv Y=>∃vr,v=.tup [.li r.1,.li r.2.1]/\Y=m.ck P0 ((aJ.C r.2.2.f_)++(aL.C r.2.2.c_)++(aP.C r.2.2.x_)++[.list .self (r.2.2.p_.iH.map bY.C),.list .self (r.2.2.p_.cO.map bL.C),.li r.2.2.dK,.li r.2.2.cW,.li r.2.2.e_]) m.hp vr)
theorem LH (n:Nat):GN (vW n):=λa0 a1 a2 a3 r h q m vs P0 ⟨hv,w0,_⟩=>SC.wva hv (SC.ac w0 λ_ _ _=>cH func341 call341 ntmps341 results341 rfl (wk .z q m (vW.eq_1 _ _ _ _ _) h))
instance:iQ 341 (∀n,GN (vW n)):=⟨LH⟩
def Ei (f:aI->Int->Int->Int->Option (Int × Int × aI)):Prop:=∀a0 a1 a2 a3 r,f a0 a1 a2 a3=some r->∀(q:Pa) (m:M) (vs:List V) (P0:Pa),vs.map V.weak1=[.ptr P0 0,.li a1,.li a2,.lw a3]/\m.blk P0=some ((aJ.C a0.f_)++(aL.C a0.c_)++(aP.C a0.x_)++[.list .self (a0.p_.iH.map bY.C),.list .self (a0.p_.cO.map bL.C),.li a0.dK,.li a0.cW,.li a0.e_])/\m.gl 1=.eptr [(cA bT.C dW)] 0 0->SC prog 342 vs q m (λv Y=>∃vr,v=.tup [.li r.1,.li r.2.1]/\Y=m.ck P0 ((aJ.C r.2.2.f_)++(aL.C r.2.2.c_)++(aP.C r.2.2.x_)++[.list .self (r.2.2.p_.iH.map bY.C),.list .self (r.2.2.p_.cO.map bL.C),.li r.2.2.dK,.li r.2.2.cW,.li r.2.2.e_]) m.hp vr)
theorem Kw (n:Nat):Ei (uA n):=λa0 a1 a2 a3 r h q m vs P0 ⟨hv,w0,_⟩=>SC.wva hv (SC.ac w0 λ_ _ _=>cH func342 call342 ntmps342 results342 rfl (wk .z q m (uA.eq_1 _ _ _ _ _) h))
instance:iQ 342 (∀n,Ei (uA n)):=⟨Kw⟩
def CA (f:aI->Int->Int->Int->Option (Int × Int × aI)):Prop:=∀a0 a1 a2 a3 r,f a0 a1 a2 a3=some r->∀(q:Pa) (m:M) (vs:List V) (P0:Pa),vs.map V.weak1=[.ptr P0 0,.li a1,.li a2,.lw a3]/\m.blk P0=some ((aJ.C a0.f_)++(aL.C a0.c_)++(aP.C a0.x_)++[.list .self (a0.p_.iH.map bY.C),.list .self (a0.p_.cO.map bL.C),.li a0.dK,.li a0.cW,.li a0.e_])/\m.gl 1=.eptr [(cA bT.C dW)] 0 0->SC prog 343 vs q m (λv Y=>∃vr,v=.tup [.li r.1,.li r.2.1]/\Y=m.ck P0 ((aJ.C r.2.2.f_)++(aL.C r.2.2.c_)++(aP.C r.2.2.x_)++[.list .self (r.2.2.p_.iH.map bY.C),.list .self (r.2.2.p_.cO.map bL.C),.li r.2.2.dK,.li r.2.2.cW,.li r.2.2.e_]) m.hp vr)
theorem IB (n:Nat):CA (qV n):=λa0 a1 a2 a3 r h q m vs P0 ⟨hv,w0,_⟩=>SC.wva hv (SC.ac w0 λ_ _ _=>cH func343 call343 ntmps343 results343 rfl (wk .z q m (qV.eq_1 _ _ _ _ _) h))
instance:iQ 343 (∀n,CA (qV n)):=⟨IB⟩
def CC (f:aI->Int->Int->Int->Option (Int × aI)):Prop:=∀a0 a1 a2 a3 r,f a0 a1 a2 a3=some r->∀(q:Pa) (m:M) (vs:List V) (P0:Pa),vs.map V.weak1=[.ptr P0 0,.li a1,.li a2,.li a3]/\m.blk P0=some ((aJ.C a0.f_)++(aL.C a0.c_)++(aP.C a0.x_)++[.list .self (a0.p_.iH.map bY.C),.list .self (a0.p_.cO.map bL.C),.li a0.dK,.li a0.cW,.li a0.e_])/\m.gl 1=.eptr [(cA bT.C dW)] 0 0->SC prog 296 vs q m (λv Y=>∃vr,v=.li r.1/\Y=m.ck P0 ((aJ.C r.2.f_)++(aL.C r.2.c_)++(aP.C r.2.x_)++[.list .self (r.2.p_.iH.map bY.C),.list .self (r.2.p_.cO.map bL.C),.li r.2.dK,.li r.2.cW,.li r.2.e_]) m.hp vr)
theorem IF (n:Nat):CC (mB n):=λa0 a1 a2 a3 r h q m vs P0 ⟨hv,w0,_⟩=>SC.wva hv (SC.ac w0 λ_ _ _=>cH func296 call296 ntmps296 results296 rfl (wk .z q m (mB.eq_1 _ _ _ _ _) h))
instance:iQ 296 (∀n,CC (mB n)):=⟨IF⟩
def Pf (f:cB->Option Int):Prop:=∀a0 r,f a0=some r->∀(q:Pa) (m:M) (vs:List V),vs.map V.weak1=[.ls a0]/\m.gl 6=.eptr [(cA bP.C dR)] 0 0->SC prog 298 vs q m (λv Y=>v=.li r/\Y=m)
theorem TI (n:Nat):Pf (EG n):=λa0 r h q m vs ⟨hv,_⟩=>SC.wva hv (cH func298 call298 ntmps298 results298 rfl (wk (.l [.v 6 Int λy=>.li y] [0,5] [] [] none .z .z) q m (EG.eq_1 _ _) h))
instance:iQ 298 (∀n,Pf (EG n)):=⟨TI⟩
def eP (f:aI->aB->Option (Int × aI)):Prop:=∀a0 a1 r,f a0 a1=some r->∀(q:Pa) (m:M) (vs:List V) (P0:Pa),vs.map V.weak1=[.ptr P0 0,.agg ((aB.C a1))]/\m.blk P0=some ((aJ.C a0.f_)++(aL.C a0.c_)++(aP.C a0.x_)++[.list .self (a0.p_.iH.map bY.C),.list .self (a0.p_.cO.map bL.C),.li a0.dK,.li a0.cW,.li a0.e_])/\m.gl 1=.eptr [(cA bT.C dW)] 0 0/\m.gl 4=.eptr [(cA bG.C cD)] 0 0/\m.gl 5=.eptr [[.lw 0,.lw 4294967295]] 0 0/\m.gl 6=.eptr [(cA bP.C dR)] 0 0->SC prog 250 vs q m (λv Y=>∃vr,v=.li r.1/\Y=m.ck P0 ((aJ.C r.2.f_)++(aL.C r.2.c_)++(aP.C r.2.x_)++[.list .self (r.2.p_.iH.map bY.C),.list .self (r.2.p_.cO.map bL.C),.li r.2.dK,.li r.2.cW,.li r.2.e_]) m.hp vr)
def wM (f:aI->aB->Option (Int × aI)):Prop:=∀a0 a1 r,f a0 a1=some r->∀(q:Pa) (m:M) (vs:List V) (P0:Pa),vs.map V.weak1=[.ptr P0 0,.agg ((aB.C a1))]/\m.blk P0=some ((aJ.C a0.f_)++(aL.C a0.c_)++(aP.C a0.x_)++[.list .self (a0.p_.iH.map bY.C),.list .self (a0.p_.cO.map bL.C),.li a0.dK,.li a0.cW,.li a0.e_])/\m.gl 1=.eptr [(cA bT.C dW)] 0 0/\m.gl 4=.eptr [(cA bG.C cD)] 0 0/\m.gl 5=.eptr [[.lw 0,.lw 4294967295]] 0 0/\m.gl 6=.eptr [(cA bP.C dR)] 0 0->SC prog 292 vs q m (λv Y=>∃vr,v=.li r.1/\Y=m.ck P0 ((aJ.C r.2.f_)++(aL.C r.2.c_)++(aP.C r.2.x_)++[.list .self (r.2.p_.iH.map bY.C),.list .self (r.2.p_.cO.map bL.C),.li r.2.dK,.li r.2.cW,.li r.2.e_]) m.hp vr)
def vL (f:aI->aB->Option (Int × aI)):Prop:=∀a0 a1 r,f a0 a1=some r->∀(q:Pa) (m:M) (vs:List V) (P0:Pa),vs.map V.weak1=[.ptr P0 0,.agg ((aB.C a1))]/\m.blk P0=some ((aJ.C a0.f_)++(aL.C a0.c_)++(aP.C a0.x_)++[.list .self (a0.p_.iH.map bY.C),.list .self (a0.p_.cO.map bL.C),.li a0.dK,.li a0.cW,.li a0.e_])/\m.gl 1=.eptr [(cA bT.C dW)] 0 0/\m.gl 4=.eptr [(cA bG.C cD)] 0 0/\m.gl 5=.eptr [[.lw 0,.lw 4294967295]] 0 0/\m.gl 6=.eptr [(cA bP.C dR)] 0 0->SC prog 293 vs q m (λv Y=>∃vr,v=.li r.1/\Y=m.ck P0 ((aJ.C r.2.f_)++(aL.C r.2.c_)++(aP.C r.2.x_)++[.list .self (r.2.p_.iH.map bY.C),.list .self (r.2.p_.cO.map bL.C),.li r.2.dK,.li r.2.cW,.li r.2.e_]) m.hp vr)
def vB (f:aI->aB->Option (Int × aI)):Prop:=∀a0 a1 r,f a0 a1=some r->∀(q:Pa) (m:M) (vs:List V) (P0:Pa),vs.map V.weak1=[.ptr P0 0,.agg ((aB.C a1))]/\m.blk P0=some ((aJ.C a0.f_)++(aL.C a0.c_)++(aP.C a0.x_)++[.list .self (a0.p_.iH.map bY.C),.list .self (a0.p_.cO.map bL.C),.li a0.dK,.li a0.cW,.li a0.e_])/\m.gl 1=.eptr [(cA bT.C dW)] 0 0/\m.gl 4=.eptr [(cA bG.C cD)] 0 0/\m.gl 5=.eptr [[.lw 0,.lw 4294967295]] 0 0/\m.gl 6=.eptr [(cA bP.C dR)] 0 0->SC prog 294 vs q m (λv Y=>∃vr,v=.li r.1/\Y=m.ck P0 ((aJ.C r.2.f_)++(aL.C r.2.c_)++(aP.C r.2.x_)++[.list .self (r.2.p_.iH.map bY.C),.list .self (r.2.p_.cO.map bL.C),.li r.2.dK,.li r.2.cW,.li r.2.e_]) m.hp vr)
def dG (f:aI->aB->Option (Int × Int × aI)):Prop:=∀a0 a1 r,f a0 a1=some r->∀(q:Pa) (m:M) (vs:List V) (P0:Pa),vs.map V.weak1=[.ptr P0 0,.agg ((aB.C a1))]/\m.blk P0=some ((aJ.C a0.f_)++(aL.C a0.c_)++(aP.C a0.x_)++[.list .self (a0.p_.iH.map bY.C),.list .self (a0.p_.cO.map bL.C),.li a0.dK,.li a0.cW,.li a0.e_])/\m.gl 1=.eptr [(cA bT.C dW)] 0 0/\m.gl 4=.eptr [(cA bG.C cD)] 0 0/\m.gl 5=.eptr [[.lw 0,.lw 4294967295]] 0 0/\m.gl 6=.eptr [(cA bP.C dR)] 0 0->SC prog 295 vs q m (λv Y=>∃vr,v=.tup [.li r.1,.li r.2.1]/\Y=m.ck P0 ((aJ.C r.2.2.f_)++(aL.C r.2.2.c_)++(aP.C r.2.2.x_)++[.list .self (r.2.2.p_.iH.map bY.C),.list .self (r.2.2.p_.cO.map bL.C),.li r.2.2.dK,.li r.2.2.cW,.li r.2.2.e_]) m.hp vr)
def uM (f:aI->aB->Option (Int × aI)):Prop:=∀a0 a1 r,f a0 a1=some r->∀(q:Pa) (m:M) (vs:List V) (P0:Pa),vs.map V.weak1=[.ptr P0 0,.agg ((aB.C a1))]/\m.blk P0=some ((aJ.C a0.f_)++(aL.C a0.c_)++(aP.C a0.x_)++[.list .self (a0.p_.iH.map bY.C),.list .self (a0.p_.cO.map bL.C),.li a0.dK,.li a0.cW,.li a0.e_])/\m.gl 1=.eptr [(cA bT.C dW)] 0 0/\m.gl 4=.eptr [(cA bG.C cD)] 0 0/\m.gl 5=.eptr [[.lw 0,.lw 4294967295]] 0 0/\m.gl 6=.eptr [(cA bP.C dR)] 0 0->SC prog 297 vs q m (λv Y=>∃vr,v=.li r.1/\Y=m.ck P0 ((aJ.C r.2.f_)++(aL.C r.2.c_)++(aP.C r.2.x_)++[.list .self (r.2.p_.iH.map bY.C),.list .self (r.2.p_.cO.map bL.C),.li r.2.dK,.li r.2.cW,.li r.2.e_]) m.hp vr)
def tN (f:aI->aB->Option (Int × Int × aI)):Prop:=∀a0 a1 r,f a0 a1=some r->∀(q:Pa) (m:M) (vs:List V) (P0:Pa),vs.map V.weak1=[.ptr P0 0,.agg ((aB.C a1))]/\m.blk P0=some ((aJ.C a0.f_)++(aL.C a0.c_)++(aP.C a0.x_)++[.list .self (a0.p_.iH.map bY.C),.list .self (a0.p_.cO.map bL.C),.li a0.dK,.li a0.cW,.li a0.e_])/\m.gl 1=.eptr [(cA bT.C dW)] 0 0/\m.gl 4=.eptr [(cA bG.C cD)] 0 0/\m.gl 5=.eptr [[.lw 0,.lw 4294967295]] 0 0/\m.gl 6=.eptr [(cA bP.C dR)] 0 0->SC prog 323 vs q m (λv Y=>∃vr,v=.tup [.li r.1,.li r.2.1]/\Y=m.ck P0 ((aJ.C r.2.2.f_)++(aL.C r.2.2.c_)++(aP.C r.2.2.x_)++[.list .self (r.2.2.p_.iH.map bY.C),.list .self (r.2.2.p_.cO.map bL.C),.li r.2.2.dK,.li r.2.2.cW,.li r.2.2.e_]) m.hp vr)
def xT (f:aI->Int->aB->Option (Int × Int × aI)):Prop:=∀a0 a1 a2 r,f a0 a1 a2=some r->∀(q:Pa) (m:M) (vs:List V) (P0:Pa),vs.map V.weak1=[.ptr P0 0,.li a1,.agg ((aB.C a2))]/\m.blk P0=some ((aJ.C a0.f_)++(aL.C a0.c_)++(aP.C a0.x_)++[.list .self (a0.p_.iH.map bY.C),.list .self (a0.p_.cO.map bL.C),.li a0.dK,.li a0.cW,.li a0.e_])/\m.gl 1=.eptr [(cA bT.C dW)] 0 0/\m.gl 4=.eptr [(cA bG.C cD)] 0 0/\m.gl 5=.eptr [[.lw 0,.lw 4294967295]] 0 0/\m.gl 6=.eptr [(cA bP.C dR)] 0 0->SC prog 324 vs q m (λv Y=>∃vr,v=.tup [.li r.1,.li r.2.1]/\Y=m.ck P0 ((aJ.C r.2.2.f_)++(aL.C r.2.2.c_)++(aP.C r.2.2.x_)++[.list .self (r.2.2.p_.iH.map bY.C),.list .self (r.2.2.p_.cO.map bL.C),.li r.2.2.dK,.li r.2.2.cW,.li r.2.2.e_]) m.hp vr)
def vM (f:aI->aB->Option (Int × Int × aI)):Prop:=∀a0 a1 r,f a0 a1=some r->∀(q:Pa) (m:M) (vs:List V) (P0:Pa),vs.map V.weak1=[.ptr P0 0,.agg ((aB.C a1))]/\m.blk P0=some ((aJ.C a0.f_)++(aL.C a0.c_)++(aP.C a0.x_)++[.list .self (a0.p_.iH.map bY.C),.list .self (a0.p_.cO.map bL.C),.li a0.dK,.li a0.cW,.li a0.e_])/\m.gl 1=.eptr [(cA bT.C dW)] 0 0/\m.gl 4=.eptr [(cA bG.C cD)] 0 0/\m.gl 5=.eptr [[.lw 0,.lw 4294967295]] 0 0/\m.gl 6=.eptr [(cA bP.C dR)] 0 0->SC prog 325 vs q m (λv Y=>∃vr,v=.tup [.li r.1,.li r.2.1]/\Y=m.ck P0 ((aJ.C r.2.2.f_)++(aL.C r.2.2.c_)++(aP.C r.2.2.x_)++[.list .self (r.2.2.p_.iH.map bY.C),.list .self (r.2.2.p_.cO.map bL.C),.li r.2.2.dK,.li r.2.2.cW,.li r.2.2.e_]) m.hp vr)
def tM (f:aI->aB->Option (Int × Int × aI)):Prop:=∀a0 a1 r,f a0 a1=some r->∀(q:Pa) (m:M) (vs:List V) (P0:Pa),vs.map V.weak1=[.ptr P0 0,.agg ((aB.C a1))]/\m.blk P0=some ((aJ.C a0.f_)++(aL.C a0.c_)++(aP.C a0.x_)++[.list .self (a0.p_.iH.map bY.C),.list .self (a0.p_.cO.map bL.C),.li a0.dK,.li a0.cW,.li a0.e_])/\m.gl 1=.eptr [(cA bT.C dW)] 0 0/\m.gl 4=.eptr [(cA bG.C cD)] 0 0/\m.gl 5=.eptr [[.lw 0,.lw 4294967295]] 0 0/\m.gl 6=.eptr [(cA bP.C dR)] 0 0->SC prog 326 vs q m (λv Y=>∃vr,v=.tup [.li r.1,.li r.2.1]/\Y=m.ck P0 ((aJ.C r.2.2.f_)++(aL.C r.2.2.c_)++(aP.C r.2.2.x_)++[.list .self (r.2.2.p_.iH.map bY.C),.list .self (r.2.2.p_.cO.map bL.C),.li r.2.2.dK,.li r.2.2.cW,.li r.2.2.e_]) m.hp vr)
def wN (f:aI->aB->Option (Int × Int × aI)):Prop:=∀a0 a1 r,f a0 a1=some r->∀(q:Pa) (m:M) (vs:List V) (P0:Pa),vs.map V.weak1=[.ptr P0 0,.agg ((aB.C a1))]/\m.blk P0=some ((aJ.C a0.f_)++(aL.C a0.c_)++(aP.C a0.x_)++[.list .self (a0.p_.iH.map bY.C),.list .self (a0.p_.cO.map bL.C),.li a0.dK,.li a0.cW,.li a0.e_])/\m.gl 1=.eptr [(cA bT.C dW)] 0 0/\m.gl 4=.eptr [(cA bG.C cD)] 0 0/\m.gl 5=.eptr [[.lw 0,.lw 4294967295]] 0 0/\m.gl 6=.eptr [(cA bP.C dR)] 0 0->SC prog 327 vs q m (λv Y=>∃vr,v=.tup [.li r.1,.li r.2.1]/\Y=m.ck P0 ((aJ.C r.2.2.f_)++(aL.C r.2.2.c_)++(aP.C r.2.2.x_)++[.list .self (r.2.2.p_.iH.map bY.C),.list .self (r.2.2.p_.cO.map bL.C),.li r.2.2.dK,.li r.2.2.cW,.li r.2.2.e_]) m.hp vr)
theorem Iz {rR} (IM:wM rR) {bD} (fY:eP bD) {lA} (Im:vL lA) {mM} (Hr:vB mM) {aU} (dV:dG aU) {oL} (Gu:uM oL) (n:Nat):eP (uF rR bD lA mM aU oL n):=haveI:iQ 292 (wM rR):=⟨IM⟩;haveI:iQ 250 (eP bD):=⟨fY⟩;haveI:iQ 293 (vL lA):=⟨Im⟩;haveI:iQ 294 (vB mM):=⟨Hr⟩;haveI:iQ 295 (dG aU):=⟨dV⟩;haveI:iQ 297 (uM oL):=⟨Gu⟩;λa0 a1 r h q m vs P0 ⟨hv,w0,_,_,_,_⟩=>SC.wva hv (SC.ac w0 λ_ _ _=>cH func250 call250 ntmps250 results250 rfl (wk .z q m (uF.eq_1 _ _ _ _ _ _ _ _ _) h))
theorem ID {bD} (fY:eP bD) (n:Nat):wM (uH bD n):=haveI:iQ 250 (eP bD):=⟨fY⟩;λa0 a1 r h q m vs P0 ⟨hv,w0,_,_,_,_⟩=>SC.wva hv (SC.ac w0 λ_ _ _=>cH func292 call292 ntmps292 results292 rfl (wk .z q m (uH.eq_1 _ _ _ _) h))
theorem Ib {bD} (fY:eP bD) (n:Nat):vL (tC bD n):=haveI:iQ 250 (eP bD):=⟨fY⟩;λa0 a1 r h q m vs P0 ⟨hv,w0,_,_,_,_⟩=>SC.wva hv (SC.ac w0 λ_ _ _=>cH func293 call293 ntmps293 results293 rfl (wk .z q m (tC.eq_1 _ _ _ _) h))
theorem GQ {bD} (fY:eP bD) (n:Nat):vB (rW bD n):=haveI:iQ 250 (eP bD):=⟨fY⟩;λa0 a1 r h q m vs P0 ⟨hv,w0,_,_,_,_⟩=>SC.wva hv (SC.ac w0 λ_ _ _=>cH func294 call294 ntmps294 results294 rfl (wk (.j 2 4 54 [.v 55 Bool λy=>.lb y] [0,3,5,6,7,9] [0,7,3,9] [] (some P0) .z .z) q m (rW.eq_1 _ _ _ _) h))
theorem IC {aU} (dV:dG aU) {nR} (Fk:tN nR) {pZ} (Jy:xT pZ) {lB} (In:vM lB) {nQ} (Fj:tM nQ) {bD} (fY:eP bD) {rT} (IN:wN rT) (n:Nat):dG (uG aU nR pZ lB nQ bD rT n):=haveI:iQ 295 (dG aU):=⟨dV⟩;haveI:iQ 323 (tN nR):=⟨Fk⟩;haveI:iQ 324 (xT pZ):=⟨Jy⟩;haveI:iQ 325 (vM lB):=⟨In⟩;haveI:iQ 326 (tM nQ):=⟨Fj⟩;haveI:iQ 250 (eP bD):=⟨fY⟩;haveI:iQ 327 (wN rT):=⟨IN⟩;λa0 a1 r h q m vs P0 ⟨hv,w0,_,_,_,_⟩=>SC.wva hv (SC.ac w0 λ_ _ _=>cH func295 call295 ntmps295 results295 rfl (wk .z q m (uG.eq_1 _ _ _ _ _ _ _ _ _ _) h))
theorem FX {aU} (dV:dG aU) (n:Nat):uM (qO aU n):=haveI:iQ 295 (dG aU):=⟨dV⟩;λa0 a1 r h q m vs P0 ⟨hv,w0,_,_,_,_⟩=>SC.wva hv (SC.ac w0 λ_ _ _=>cH func297 call297 ntmps297 results297 rfl (wk .z q m (qO.eq_1 _ _ _ _) h))
theorem EU {aU} (dV:dG aU) (n:Nat):tN (pL aU n):=haveI:iQ 295 (dG aU):=⟨dV⟩;λa0 a1 r h q m vs P0 ⟨hv,w0,_,_,_,_⟩=>SC.wva hv (SC.ac w0 λ_ _ _=>cH func323 call323 ntmps323 results323 rfl (wk .z q m (pL.eq_1 _ _ _ _) h))
theorem Jn {aU} (dV:dG aU) (n:Nat):xT (sP aU n):=haveI:iQ 295 (dG aU):=⟨dV⟩;λa0 a1 a2 r h q m vs P0 ⟨hv,w0,_,_,_,_⟩=>SC.wva hv (SC.ac w0 λ_ _ _=>cH func324 call324 ntmps324 results324 rfl (wk .z q m (sP.eq_1 _ _ _ _ _) h))
theorem Ic {aU} (dV:dG aU) (n:Nat):vM (tD aU n):=haveI:iQ 295 (dG aU):=⟨dV⟩;λa0 a1 r h q m vs P0 ⟨hv,w0,_,_,_,_⟩=>SC.wva hv (SC.ac w0 λ_ _ _=>cH func325 call325 ntmps325 results325 rfl (wk .z q m (tD.eq_1 _ _ _ _) h))
theorem ET {bD} (fY:eP bD) {aU} (dV:dG aU) (n:Nat):tM (pK bD aU n):=haveI:iQ 250 (eP bD):=⟨fY⟩;haveI:iQ 295 (dG aU):=⟨dV⟩;λa0 a1 r h q m vs P0 ⟨hv,w0,_,_,_,_⟩=>SC.wva hv (SC.ac w0 λ_ _ _=>cH func326 call326 ntmps326 results326 rfl (wk .z q m (pK.eq_1 _ _ _ _ _) h))
theorem IG {aU} (dV:dG aU) (n:Nat):wN (uI aU n):=haveI:iQ 295 (dG aU):=⟨dV⟩;λa0 a1 r h q m vs P0 ⟨hv,w0,_,_,_,_⟩=>SC.wva hv (SC.ac w0 λ_ _ _=>cH func327 call327 ntmps327 results327 rfl (wk .z q m (uI.eq_1 _ _ _ _) h))
theorem vV:∀n,eP (kV n)/\wM (My n)/\vL (LI n)/\vB (KU n)/\dG (vX n)/\uM (Kx n)/\tN (Jq n)/\xT (Nt n)/\vM (LL n)/\tM (Jp n)/\wN (Mz n)
 | 0=>⟨λ_ _ _ h=>cK h,λ_ _ _ h=>cK h,λ_ _ _ h=>cK h,λ_ _ _ h=>cK h,λ_ _ _ h=>cK h,λ_ _ _ h=>cK h,λ_ _ _ h=>cK h,λ_ _ _ _ h=>cK h,λ_ _ _ h=>cK h,λ_ _ _ h=>cK h,λ_ _ _ h=>cK h⟩
 | n+1=>
   have ih:=vV n
   ⟨Iz ih.2.1 ih.1 ih.2.2.1 ih.2.2.2.1 ih.2.2.2.2.1 ih.2.2.2.2.2.1 n,ID ih.1 n,Ib ih.1 n,GQ ih.1 n,IC ih.2.2.2.2.1 ih.2.2.2.2.2.2.1 ih.2.2.2.2.2.2.2.1 ih.2.2.2.2.2.2.2.2.1 ih.2.2.2.2.2.2.2.2.2.1 ih.1 ih.2.2.2.2.2.2.2.2.2.2 n,FX ih.2.2.2.2.1 n,EU ih.2.2.2.2.1 n,Jn ih.2.2.2.2.1 n,Ic ih.2.2.2.2.1 n,ET ih.1 ih.2.2.2.2.1 n,IG ih.2.2.2.2.1 n⟩
theorem Ks (n:Nat):eP (kV n):=(vV n).1
theorem Kt (n:Nat):dG (vX n):=(vV n).2.2.2.2.1
instance:iQ 250 (∀n,eP (kV n)):=⟨Ks⟩
instance:iQ 295 (∀n,dG (vX n)):=⟨Kt⟩
def CU (f:aL->Int->Option Int):Prop:=∀a0 a1 r,f a0 a1=some r->By prog 48 [.agg ((aL.C a0)),.li a1] (.li r)
theorem IQ:CU (kN):=λa0 a1 r h q m vs hv=>SC.wva hv (cH func48 call48 ntmps48 results48 rfl (wk (.j 2 1 20 [.v 23 Bool λy=>.lb y] [1,2] [2] [] none .z (.c .z (.j 2 4 57 [.v 59 Bool λy=>.lb y] [5] [] [] none .z .z))) q m (kN.eq_1 _ _) h))
instance:iQ 48 (CU kN):=⟨IQ⟩
def Fz (f:aI->Int->Int->Option aI):Prop:=∀a0 a1 a2 r,f a0 a1 a2=some r->∀(q:Pa) (m:M) (vs:List V) (P0:Pa),vs.map V.weak1=[.ptr P0 0,.li a1,.li a2]/\m.blk P0=some ((aJ.C a0.f_)++(aL.C a0.c_)++(aP.C a0.x_)++[.list .self (a0.p_.iH.map bY.C),.list .self (a0.p_.cO.map bL.C),.li a0.dK,.li a0.cW,.li a0.e_])/\m.gl 1=.eptr [(cA bT.C dW)] 0 0->SC prog 251 vs q m (λv Y=>∃vr,v=.tup []/\Y=m.ck P0 ((aJ.C r.f_)++(aL.C r.c_)++(aP.C r.x_)++[.list .self (r.p_.iH.map bY.C),.list .self (r.p_.cO.map bL.C),.li r.dK,.li r.cW,.li r.e_]) m.hp vr)
theorem KS (n:Nat):Fz (jX n):=λa0 a1 a2 r h q m vs P0 ⟨hv,w0,_⟩=>SC.wva hv (SC.ac w0 λ_ _ _=>cH func251 call251 ntmps251 results251 rfl (wk .z q m (jX.eq_1 _ _ _ _) h))
instance:iQ 251 (∀n,Fz (jX n)):=⟨KS⟩
def Dp (f:aI->aB->Int->Option aI):Prop:=∀a0 a1 a2 r,f a0 a1 a2=some r->∀(q:Pa) (m:M) (vs:List V) (P0:Pa),vs.map V.weak1=[.ptr P0 0,.agg ((aB.C a1)),.li a2]/\m.blk P0=some ((aJ.C a0.f_)++(aL.C a0.c_)++(aP.C a0.x_)++[.list .self (a0.p_.iH.map bY.C),.list .self (a0.p_.cO.map bL.C),.li a0.dK,.li a0.cW,.li a0.e_])/\m.gl 1=.eptr [(cA bT.C dW)] 0 0/\m.gl 4=.eptr [(cA bG.C cD)] 0 0/\m.gl 5=.eptr [[.lw 0,.lw 4294967295]] 0 0/\m.gl 6=.eptr [(cA bP.C dR)] 0 0->SC prog 253 vs q m (λv Y=>∃vr,v=.tup []/\Y=m.ck P0 ((aJ.C r.f_)++(aL.C r.c_)++(aP.C r.x_)++[.list .self (r.p_.iH.map bY.C),.list .self (r.p_.cO.map bL.C),.li r.dK,.li r.cW,.li r.e_]) m.hp vr)
theorem Jo (n:Nat):Dp (kD n):=λa0 a1 a2 r h q m vs P0 ⟨hv,w0,_,_,_,_⟩=>SC.wva hv (SC.ac w0 λ_ _ _=>cH func253 call253 ntmps253 results253 rfl (wk .z q m (kD.eq_1 _ _ _ _) h))
instance:iQ 253 (∀n,Dp (kD n)):=⟨Jo⟩
def Eh (f:aI->aA->Option aI):Prop:=∀a0 a1 r,f a0 a1=some r->∀(q:Pa) (m:M) (vs:List V) (P0:Pa),vs.map V.weak1=[.ptr P0 0,.agg ((aA.C a1))]/\m.blk P0=some ((aJ.C a0.f_)++(aL.C a0.c_)++(aP.C a0.x_)++[.list .self (a0.p_.iH.map bY.C),.list .self (a0.p_.cO.map bL.C),.li a0.dK,.li a0.cW,.li a0.e_])/\m.gl 1=.eptr [(cA bT.C dW)] 0 0/\m.gl 4=.eptr [(cA bG.C cD)] 0 0/\m.gl 5=.eptr [[.lw 0,.lw 4294967295]] 0 0/\m.gl 6=.eptr [(cA bP.C dR)] 0 0->SC prog 190 vs q m (λv Y=>∃vr,v=.tup []/\Y=m.ck P0 ((aJ.C r.f_)++(aL.C r.c_)++(aP.C r.x_)++[.list .self (r.p_.iH.map bY.C),.list .self (r.p_.cO.map bL.C),.li r.dK,.li r.cW,.li r.e_]) m.hp vr)
theorem Kv (n:Nat):Eh (qW n):=λa0 a1 r h q m vs P0 ⟨hv,w0,_,_,_,_⟩=>SC.wva hv (SC.ac w0 λ_ _ _=>cH func190 call190 ntmps190 results190 rfl (wk (.c .z (.c .z (.c .z (.c .z (.c (.l [.v 60 Int λy=>.li y,.b 0 aI λy=>(aJ.C y.f_)++(aL.C y.c_)++(aP.C y.x_)++[.list .self (y.p_.iH.map bY.C),.list .self (y.p_.cO.map bL.C),.li y.dK,.li y.cW,.li y.e_]] [0,3,5,59] [3] [] (some P0) .z .z) .z))))) q m (qW.eq_1 _ _ _) h))
instance:iQ 190 (∀n,Eh (qW n)):=⟨Kv⟩
def kY (f:aI->(List aA)->Option ((List bB) × aI)):Prop:=∀a0 a1 r,f a0 a1=some r->∀(q:Pa) (m:M) (vs:List V) (P0:Pa),vs.map V.weak1=[.ptr P0 0,.list .none (a1.map aA.C)]/\m.blk P0=some ((aJ.C a0.f_)++(aL.C a0.c_)++(aP.C a0.x_)++[.list .self (a0.p_.iH.map bY.C),.list .self (a0.p_.cO.map bL.C),.li a0.dK,.li a0.cW,.li a0.e_])/\m.gl 1=.eptr [(cA bT.C dW)] 0 0/\m.gl 4=.eptr [(cA bG.C cD)] 0 0/\m.gl 5=.eptr [[.lw 0,.lw 4294967295]] 0 0/\m.gl 6=.eptr [(cA bP.C dR)] 0 0->SC prog 116 vs q m (λv Y=>∃vr,v=.list .none (r.1.map bB.C)/\Y=m.ck P0 ((aJ.C r.2.f_)++(aL.C r.2.c_)++(aP.C r.2.x_)++[.list .self (r.2.p_.iH.map bY.C),.list .self (r.2.p_.cO.map bL.C),.li r.2.dK,.li r.2.cW,.li r.2.e_]) m.hp vr)
def vC (f:aI->aA->Option ((List bB) × aI)):Prop:=∀a0 a1 r,f a0 a1=some r->∀(q:Pa) (m:M) (vs:List V) (P0:Pa),vs.map V.weak1=[.ptr P0 0,.agg ((aA.C a1))]/\m.blk P0=some ((aJ.C a0.f_)++(aL.C a0.c_)++(aP.C a0.x_)++[.list .self (a0.p_.iH.map bY.C),.list .self (a0.p_.cO.map bL.C),.li a0.dK,.li a0.cW,.li a0.e_])/\m.gl 1=.eptr [(cA bT.C dW)] 0 0/\m.gl 4=.eptr [(cA bG.C cD)] 0 0/\m.gl 5=.eptr [[.lw 0,.lw 4294967295]] 0 0/\m.gl 6=.eptr [(cA bP.C dR)] 0 0->SC prog 187 vs q m (λv Y=>∃vr,v=.list .none (r.1.map bB.C)/\Y=m.ck P0 ((aJ.C r.2.f_)++(aL.C r.2.c_)++(aP.C r.2.x_)++[.list .self (r.2.p_.iH.map bY.C),.list .self (r.2.p_.cO.map bL.C),.li r.2.dK,.li r.2.cW,.li r.2.e_]) m.hp vr)
def vA (f:aI->aA->Option (bB × aI)):Prop:=∀a0 a1 r,f a0 a1=some r->∀(q:Pa) (m:M) (vs:List V) (P0:Pa),vs.map V.weak1=[.ptr P0 0,.agg ((aA.C a1))]/\m.blk P0=some ((aJ.C a0.f_)++(aL.C a0.c_)++(aP.C a0.x_)++[.list .self (a0.p_.iH.map bY.C),.list .self (a0.p_.cO.map bL.C),.li a0.dK,.li a0.cW,.li a0.e_])/\m.gl 1=.eptr [(cA bT.C dW)] 0 0/\m.gl 4=.eptr [(cA bG.C cD)] 0 0/\m.gl 5=.eptr [[.lw 0,.lw 4294967295]] 0 0/\m.gl 6=.eptr [(cA bP.C dR)] 0 0->SC prog 188 vs q m (λv Y=>∃vr,v=.agg ((bB.C r.1))/\Y=m.ck P0 ((aJ.C r.2.f_)++(aL.C r.2.c_)++(aP.C r.2.x_)++[.list .self (r.2.p_.iH.map bY.C),.list .self (r.2.p_.cO.map bL.C),.li r.2.dK,.li r.2.cW,.li r.2.e_]) m.hp vr)
theorem Id {jH} (Hs:vC jH) {jG} (Ho:vA jG) (n:Nat):kY (tE jH jG n):=haveI:iQ 187 (vC jH):=⟨Hs⟩;haveI:iQ 188 (vA jG):=⟨Ho⟩;λa0 a1 r h q m vs P0 ⟨hv,w0,_,_,_,_⟩=>SC.wva hv (SC.ac w0 λ_ _ _=>cH func116 call116 ntmps116 results116 rfl (wk (.s 5 (.l [.o 5 (List bB) λy=>(y.map bB.C),.v 10 Int λy=>.li y,.b 0 aI λy=>(aJ.C y.f_)++(aL.C y.c_)++(aP.C y.x_)++[.list .self (y.p_.iH.map bY.C),.list .self (y.p_.cO.map bL.C),.li y.dK,.li y.cW,.li y.e_]] [0,8,9] [] [] (some P0) (.c (.j 11 1 37 [.o 5 (List bB) λy=>(y.map bB.C),.b 0 aI λy=>(aJ.C y.f_)++(aL.C y.c_)++(aP.C y.x_)++[.list .self (y.p_.iH.map bY.C),.list .self (y.p_.cO.map bL.C),.li y.dK,.li y.cW,.li y.e_]] [0,8,9,10] [] [] (some P0) .z .z) .z) .z)) q m (tE.eq_1 _ _ _ _ _) h))
theorem GS {eF} (wQ:kY eF) (n:Nat):vC (rX eF n):=haveI:iQ 116 (kY eF):=⟨wQ⟩;λa0 a1 r h q m vs P0 ⟨hv,w0,_,_,_,_⟩=>SC.wva hv (SC.ac w0 λ_ _ _=>cH func187 call187 ntmps187 results187 rfl (wk .z q m (rX.eq_1 _ _ _ _) h))
theorem GO {eF} (wQ:kY eF) (n:Nat):vA (rU eF n):=haveI:iQ 116 (kY eF):=⟨wQ⟩;λa0 a1 r h q m vs P0 ⟨hv,w0,_,_,_,_⟩=>SC.wva hv (SC.ac w0 λ_ _ _=>cH func188 call188 ntmps188 results188 rfl (wk .z q m (rU.eq_1 _ _ _ _) h))
theorem zE:∀n,kY (pM n)/\vC (kI n)/\vA (lZ n)
 | 0=>⟨λ_ _ _ h=>cK h,λ_ _ _ h=>cK h,λ_ _ _ h=>cK h⟩
 | n+1=>
   have ih:=zE n
   ⟨Id ih.2.1 ih.2.2 n,GS ih.1 n,GO ih.1 n⟩
theorem Jr (n:Nat):kY (pM n):=(zE n).1
instance:iQ 116 (∀n,kY (pM n)):=⟨Jr⟩
def Ng (f:aJ->aL->aP->Option ((List bB) × Int)):Prop:=∀a0 a1 a2 r,f a0 a1 a2=some r->∀(q:Pa) (m:M) (vs:List V),vs.map V.weak1=[.agg ((aJ.C a0)),.agg ((aL.C a1)),.agg ((aP.C a2))]/\m.gl 1=.eptr [(cA bT.C dW)] 0 0/\m.gl 4=.eptr [(cA bG.C cD)] 0 0/\m.gl 5=.eptr [[.lw 0,.lw 4294967295]] 0 0/\m.gl 6=.eptr [(cA bP.C dR)] 0 0->SC prog 59 vs q m (λv Y=>v=.tup [.list .none (r.1.map bB.C),.li r.2]/\Y=m)
theorem RN (n:Nat):Ng (DN n):=λa0 a1 a2 r h q m vs ⟨hv,_,_,_,_⟩=>SC.wva hv (cH func59 call59 ntmps59 results59 rfl (wk .z q m (DN.eq_1 _ _ _ _) h))
instance:iQ 59 (∀n,Ng (DN n)):=⟨RN⟩
def Ct (f:cB->Int->Option (dP × Bool)):Prop:=∀a0 a1 r,f a0 a1=some r->∀(q:Pa) (m:M) (vs:List V),vs.map V.weak1=[.list .none (sH a0),.li a1]/\(m.hp=λ_=>none)/\m.gl 0=.eptr [(cA bK.C cV)] 0 0/\m.gl 1=.eptr [(cA bT.C dW)] 0 0/\m.gl 2=.eptr [(cA cS gL)] 0 0/\m.gl 3=.eptr [(cA cS cL)] 0 0/\m.gl 4=.eptr [(cA bG.C cD)] 0 0/\m.gl 5=.eptr [[.lw 0,.lw 4294967295]] 0 0/\m.gl 6=.eptr [(cA bP.C dR)] 0 0/\m.gl 8=.eptr [(cA (cA cS) dH)] 0 0->SC prog 21 vs q m (λv Y=>v=.tup [.agg ((dP.C r.1)),.lb r.2]/\Y=m)
theorem Ix (n:Nat):Ct (oE n):=λa0 a1 r h q m vs ⟨hv,_,_,_,_,_,_,_,_,_⟩=>SC.wva hv (cH func21 call21 ntmps21 results21 rfl (wk .z q m (oE.eq_1 _ _ _) h))
instance:iQ 21 (∀n,Ct (oE n)):=⟨Ix⟩
def CN (f:(List bB)->Option Int):Prop:=∀a0 r,f a0=some r->By prog 26 [.list .none (a0.map bB.C)] (.li r)
theorem Pg {rL} (OX:CN rL) (n:Nat):CN (JC rL n):=haveI:iQ 26 (CN rL):=⟨OX⟩;λa0 r h q m vs hv=>SC.wva hv (cH func26 call26 ntmps26 results26 rfl (wk (.l [.v 3 Int λy=>.li y,.v 8 Int λy=>.li y] [6,7] [] [] none .z .z) q m (JC.eq_1 _ _ _) h))
theorem LP:∀n,CN (Kc n)
 | 0=>λ_ _ h=>cK h
 | n+1=>Pg (LP n) n
instance:iQ 26 (∀n,CN (Kc n)):=⟨LP⟩
def zC (f:Option Bool):Prop:=∀r,f=some r->∀(q:Pa) (m:M) (vs:List V),vs.map V.weak1=[]/\(m.hp=λ_=>none)/\m.gl 0=.eptr [(cA bK.C cV)] 0 0/\m.gl 1=.eptr [(cA bT.C dW)] 0 0/\m.gl 2=.eptr [(cA cS gL)] 0 0/\m.gl 3=.eptr [(cA cS cL)] 0 0/\m.gl 4=.eptr [(cA bG.C cD)] 0 0/\m.gl 5=.eptr [[.lw 0,.lw 4294967295]] 0 0/\m.gl 6=.eptr [(cA bP.C dR)] 0 0/\m.gl 8=.eptr [(cA (cA cS) dH)] 0 0->SC prog 20 vs q m (λv Y=>v=.lb r/\Y=m)
instance:Ud mT 4:=⟨zc⟩
@[go_sem low] theorem NO {n:Nat}:List.drop n [V.lit (.int .i64 (2:Int)),V.lit (.int .i64 (1:Int)),V.lit (.int .i64 (10:Int)),V.lit (.int .i64 (3:Int))]=PY (cI .i64) mT[n]? ++ cA (cI .i64) (mT.drop (n+1)):=Pj (f:=(cI .i64)) (l:=mT)
theorem EP (n:Nat):zC (mL n):=λr h q m vs ⟨hv,_,_,_,_,_,_,_,_,_⟩=>SC.wva hv (cH func20 call20 ntmps20 results20 rfl (wk (.j 2 2 34 [.v 34 Bool λy=>.lb y] [1] [1] [] none .z (.c .z (.l [.v 36 Int λy=>.li y] [1,35] [1] [] none .z .z))) q m (mL.eq_1 _) h))
instance:iQ 20 (∀n,zC (mL n)):=⟨EP⟩
def Ls (f:Int->Option Int):Prop:=∀a0 r,f a0=some r->By prog 122 [.li a0] (.li r)
theorem PM:Ls (BN):=λa0 r h q m vs hv=>SC.wva hv (cH func122 call122 ntmps122 results122 rfl (wk .z q m (BN.eq_1 _) h))
instance:iQ 122 (Ls BN):=⟨PM⟩
def xH (f:aF->Option Bool):Prop:=∀a0 r,f a0=some r->By prog 65 [.agg ((aF.C a0))] (.lb r)
def eV (f:(List aF)->Option Bool):Prop:=∀a0 r,f a0=some r->By prog 123 [.list .none (a0.map aF.C),.fn (.func 124) [] []] (.lb r)
def zV (f:aF->Option Bool):Prop:=∀a0 r,f a0=some r->By prog 124 [.agg ((aF.C a0))] (.lb r)
def fI (f:(List aF)->Option Int):Prop:=∀a0 r,f a0=some r->By prog 191 [.list .none (a0.map aF.C),.fn (.func 124) [] []] (.li r)
theorem Ml {dQ} (sF:eV dQ) (n:Nat):xH (yX dQ n):=haveI:iQ 123 (eV dQ):=⟨sF⟩;λa0 r h q m vs hv=>SC.wva hv (cH func65 call65 ntmps65 results65 rfl (wk (.j 2 1 39 [.v 39 Bool λy=>.lb y] [1] [1] [] none .z .z) q m (yX.eq_1 _ _ _) h))
theorem rP {dX} (tJ:fI dX) (n:Nat):eV (dU dX n):=haveI:iQ 191 (fI dX):=⟨tJ⟩;λa0 r h q m vs hv=>SC.wva hv (cH func123 call123 ntmps123 results123 rfl (wk .z q m (dU.eq_1 _ _ _) h))
theorem KN {xA} (MC:xH xA) (n:Nat):zV (uW xA n):=haveI:iQ 65 (xH xA):=⟨MC⟩;λa0 r h q m vs hv=>SC.wva hv (cH func124 call124 ntmps124 results124 rfl (wk .z q m (uW.eq_1 _ _ _) h))
theorem tB {nH} (KZ:zV nH) (n:Nat):fI (eB nH n):=haveI:iQ 124 (zV nH):=⟨KZ⟩;λa0 r h q m vs hv=>SC.wva hv (cH func191 call191 ntmps191 results191 rfl (wk (.l [.v 8 Int λy=>.li y] [0,1,7] [] [] none .z .z) q m (eB.eq_1 _ _ _) h))
theorem DW:∀n,xH (Fv n)/\eV (tZ n)/\zV (PL n)/\fI (uQ n)
 | 0=>⟨λ_ _ h=>cK h,λ_ _ h=>cK h,λ_ _ h=>cK h,λ_ _ h=>cK h⟩
 | n+1=>
   have ih:=DW n
   ⟨Ml ih.2.1 n,rP ih.2.2.2 n,KN ih.1 n,tB ih.2.2.1 n⟩
theorem Oi (n:Nat):xH (Fv n):=(DW n).1
instance:iQ 65 (∀n,xH (Fv n)):=⟨Oi⟩
def Fw (f:aF->Option Bool):Prop:=∀a0 r,f a0=some r->By prog 25 [.agg ((aF.C a0))] (.lb r)
theorem KO (n:Nat):Fw (kP n):=λa0 r h q m vs hv=>SC.wva hv (cH func25 call25 ntmps25 results25 rfl (wk (.j 2 1 10 [.v 2 Bool λy=>.lb y] [] [] [] none .z .z) q m (kP.eq_1 _ _) h))
instance:iQ 25 (∀n,Fw (kP n)):=⟨KO⟩
def oJ (f:aF->(List Int)->Option Bool):Prop:=∀a0 a1 r,f a0 a1=some r->By prog 60 [.agg ((aF.C a0)),.list .none (a1.map (cI .i64))] (.lb r)
theorem Ea {iC} (EB:oJ iC) (n:Nat):oJ (gY iC n):=haveI:iQ 60 (oJ iC):=⟨EB⟩;λa0 a1 r h q m vs hv=>SC.wva hv (cH func60 call60 ntmps60 results60 rfl (wk (.c (.l [.v 14 Int λy=>.li y] [2,12,13] [2] [] none .z .z) (.l [.v 27 Int λy=>.li y] [1,25,26] [] [] none .z .z)) q m (gY.eq_1 _ _ _ _) h))
theorem zB:∀n,oJ (dF n)
 | 0=>λ_ _ _ h=>cK h
 | n+1=>Ea (zB n) n
instance:iQ 60 (∀n,oJ (dF n)):=⟨zB⟩
@[go_sem] theorem drop_parts {a b c:cU} {n:Nat}:List.drop (n*2) [V.list .none (a.iH.map bY.C),.list .none (a.cO.map bL.C),.list .none (b.iH.map bY.C),.list .none (b.cO.map bL.C),.list .none (c.iH.map bY.C),.list .none (c.cO.map bL.C)]=PY cU.C [a,b,c][n]? ++ cA cU.C ([a,b,c].drop (n+1)):=RU (f:=cU.C) (l:=[a,b,c])
def oI (f:(List bB)->(List Int)->Option Bool):Prop:=∀a0 a1 r,f a0 a1=some r->By prog 22 [.list .none (a0.map bB.C),.list .none (a1.map (cI .i64))] (.lb r)
theorem DZ {dO} (Ez:oI dO) (n:Nat):oI (oH dO n):=haveI:iQ 22 (oI dO):=⟨Ez⟩;λa0 a1 r h q m vs hv=>SC.wva hv (cH func22 call22 ntmps22 results22 rfl (wk (.l [.v 14 Int λy=>.li y] [1,12,13] [] [] none (.c (.j 11 1 78 [] [1,12,13,14] [] [] none (.l [.v 25 Int λy=>.li y] [1,6,12,13,14,24] [6] [] none (.c (.l [.v 31 Int λy=>.li y] [1,6,12,13,14,24,25,29,30] [6] [] none (.c (.j 2 10 34 [.v 63 Bool λy=>.lb y] [1,6,12,13,14,24,25,29,30,31] [6] [] none .z .z) .z) .z) .z) (.c (.j 2 17 37 [.v 87 Bool λy=>.lb y] [1,6,11,12,13,14] [6] [] none .z (.c .z (.j 2 23 49 [.v 144 Bool λy=>.lb y] [1,12,13,14] [] [] none .z .z))) (.c (.j 2 20 58 [.v 125 Bool λy=>.lb y] [1,6,12,13,14] [6] [] none .z (.c .z (.j 2 23 78 [.v 144 Bool λy=>.lb y] [1,12,13,14] [] [] none .z .z))) (.j 2 23 34 [.v 144 Bool λy=>.lb y] [1,12,13,14] [] [] none .z .z)))) .z) .z) .z) q m (oH.eq_1 _ _ _ _) h))
theorem zA:∀n,oI (fX n)
 | 0=>λ_ _ _ h=>cK h
 | n+1=>DZ (zA n) n
instance:iQ 22 (∀n,oI (fX n)):=⟨zA⟩
def xZ (f:cB->Int->Option Bool):Prop:=∀a0 a1 r,f a0 a1=some r->∀(q:Pa) (m:M) (vs:List V),vs.map V.weak1=[.list .none (sH a0),.li a1]/\(m.hp=λ_=>none)/\m.gl 0=.eptr [(cA bK.C cV)] 0 0/\m.gl 1=.eptr [(cA bT.C dW)] 0 0/\m.gl 2=.eptr [(cA cS gL)] 0 0/\m.gl 3=.eptr [(cA cS cL)] 0 0/\m.gl 4=.eptr [(cA bG.C cD)] 0 0/\m.gl 5=.eptr [[.lw 0,.lw 4294967295]] 0 0/\m.gl 6=.eptr [(cA bP.C dR)] 0 0/\m.gl 8=.eptr [(cA (cA cS) dH)] 0 0->SC prog 5 vs q m (λv Y=>v=.lb r/\Y=m)
theorem Dt (n:Nat):xZ (nP n):=λa0 a1 r h q m vs ⟨hv,_,_,_,_,_,_,_,_,_⟩=>SC.wva hv (cH func5 call5 ntmps5 results5 rfl (wk .z q m (nP.eq_1 _ _ _) h))
