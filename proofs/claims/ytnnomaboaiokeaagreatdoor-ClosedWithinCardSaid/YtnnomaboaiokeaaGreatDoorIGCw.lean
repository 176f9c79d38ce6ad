import Derived.Test.YtnnomaboaiokeaaGreatDoorIGFw
import Derived.Test.YtnnomaboaiokeaaGreatDoorIVt2
namespace Go.Proofs.YtnnomaboaiokeaaGreatDoor.Abs
open Go.RowKit Tryz
open IntKind (i64 u32 u64 u8)
set_option linter.all false
set_option maxRecDepth 10000
set_option maxHeartbeats 2000000
open Tryz
instance:Ll aM.C 3:=⟨λx=>by rw [aM.C_eq];rfl⟩
def Ah (f:cF->Int->Option (aT × bH × Bool)):Prop:=∀a0 a1 r,f a0 a1=some r->∀(q:Pa) (m:M) (vs:List V),vs.map V.weak1=[.list .none (pR a0),.li a1]/\(m.hp=λ_=>none)/\m.gl 1=.eptr [(cA bJ.C cL)] 0 0/\m.gl 3=.eptr [(cA cS eV)] 0 0/\m.gl 4=.eptr [(cA cS cD)] 0 0/\m.gl 6=.eptr [(cA (cA cS) cT)] 0 0->SC prog 10 vs q m (λv Y=>v=.tup [.agg ((aT.C r.1)),.agg ((bH.C r.2.1)),.lb r.2.2]/\Y=m)
theorem Fd (n:Nat):Ah (mY n):=by
 rintro a0 a1 r h q m vs ⟨hv,hgh,hg1,hg3,hg4,hg6⟩;refine SC.wv hv (sY func10 call10 ntmps10 results10 ?_);unfold mY at h;refine aK (aQ λK hK=>?_);have K1:=qJ4 hg1 hg3 hg4 hg6;simp only [go_sem,seval,hgh,K1];apply hK;simp only [aC,aA];refine aK (aK (aQ λK hK=>?_));simp only [go_sem,seval,hgh,K1];apply hK;simp only [aC,aA];refine eT h (λc3 h=>?_) (λc3 h=>?_)
 ·refine aK (aQ λK hK=>?_);simp only [go_sem,seval,c3,hgh,K1];apply hK;simp only [aC,aA];refine Ac (id:=(0::q)) (off:=4) (cs:=[.ls [],.lb false,.li (0:Int),.li (0:Int),.nilv,.nilv]) (by simp only [go_sem,seval,c3,hgh,K1]) rfl ?_;refine Ac (id:=(0::q)) (off:=5) (cs:=[.ls [],.lb false,.li (0:Int),.li (0:Int),.list .none [],.nilv]) (by simp only [go_sem,seval,c3,hgh,K1]) rfl ?_;refine cU ?_
  try simp only [aU,aR]
  cases h;exact jS
 ·refine cN ?_
  try simp only [aC,aA]
  refine aK ?_;obtain ⟨x4,h6,h⟩:=aI h;refine aQ λK hK=>?_;simp only [go_sem,seval,c3,hgh,K1];refine SC.bA (Kx n a0 _ h6 _ _ _) ?_;simp only [go_sem,seval,c3,hgh,K1];apply hK;simp only [aC,aA];refine aK (aK (aQ λK hK=>?_));simp only [go_sem,seval,c3,hgh,K1];apply hK;simp only [aC,aA];refine eT h (λc7 h=>?_) (λc7 h=>?_)
  ·refine aK (aQ λK hK=>?_);simp only [go_sem,seval,c3,c7,hgh,K1];apply hK;simp only [aC,aA];refine Ac (id:=(0::q)) (off:=4) (cs:=[.ls [],.lb false,.li (0:Int),.li (0:Int),.nilv,.nilv]) (by simp only [go_sem,seval,c3,c7,hgh,K1]) rfl ?_;refine Ac (id:=(0::q)) (off:=5) (cs:=[.ls [],.lb false,.li (0:Int),.li (0:Int),.list .none [],.nilv]) (by simp only [go_sem,seval,c3,c7,hgh,K1]) rfl ?_;refine cU ?_
   try simp only [aU,aR]
   cases h;exact jS
  ·refine cN ?_
   try simp only [aC,aA]
   refine aK ?_;obtain ⟨x8,h10,h⟩:=aI h;refine aQ λK hK=>?_;simp only [go_sem,seval,c3,c7,hgh,K1];refine SC.bA (Mz n x4.1 a1 _ h10 _ _ _) ?_;simp only [go_sem,seval,c3,c7,hgh,K1];apply hK;simp only [aC,aA];refine aK (GC [(0,0),(4,0),(1,1),(5,0),(2,0),(3,0),(6,0)] 34 ?_);simp only [aC,aA];refine cU ?_
   try simp only [aU,aR]
   cases h;exact jS
instance:nQ 10 (∀n,Ah (mY n)):=⟨Fd⟩
def Aa (f:(List aB)->Option Int):Prop:=∀a0 r,f a0=some r->CJ prog 33 [.list .none (a0.map aB.C)] (.li r)
theorem Ii {jY} (Ie:Aa jY) (n:Nat):Aa (vO jY n):=haveI:nQ 33 (Aa jY):=⟨Ie⟩;λa0 r h q m vs hv=>SC.wva hv (dB func33 call33 ntmps33 results33 rfl (wk (.l [.v 3 Int λy=>.li y,.v 8 Int λy=>.li y] [6,7] [] [] none (.c (.j 1 1 21 [.v 3 Int λy=>.li y] [6,7,8] [] [] none .z .z) .z) .z) q m (vO.eq_1 _ _ _) h))
theorem FM:∀n,Aa (wU n)
 | 0=>λ_ _ h=>dO h
 | n+1=>Ii (FM n) n
def yN (f:(List Int)->Int->Option (List Int)):Prop:=∀a0 a1 r,f a0 a1=some r->CJ prog 34 [.list .none (a0.map (cI .u32)),.li a1] (.list .exact (r.map (cI .u32)))
theorem rZ:yN tA:=λa0 a1 r h q m vs hv=>Rw h q m vs hv
def Lr (f:Int->Option aM):Prop:=∀a0 r,f a0=some r->CJ prog 35 [.li a0] (.agg ((aM.C r)))
theorem JE:Lr (Em):=λa0 r h q m vs hv=>SC.wva hv (dB func35 call35 ntmps35 results35 rfl (wk .z q m (Em.eq_1 _) h))
instance:nQ 35 (Lr Em):=⟨JE⟩
def xI (f:aM->Option Int):Prop:=∀a0 r,f a0=some r->CJ prog 21 [.agg ((aM.C a0))] (.li r)
theorem IQ {pO} (IW:xI pO) (n:Nat):xI (xH pO n):=haveI:nQ 21 (xI pO):=⟨IW⟩;λa0 r h q m vs hv=>SC.wva hv (dB func21 call21 ntmps21 results21 rfl (wk (.l [.v 3 Int λy=>.li y,.v 9 Int λy=>.li y] [7,8] [] [] none .z .z) q m (xH.eq_1 _ _ _) h))
theorem Gx:∀n,xI (vX n)
 | 0=>λ_ _ h=>dO h
 | n+1=>IQ (Gx n) n
instance:nQ 21 (∀n,xI (vX n)):=⟨Gx⟩
def oL (f:bL->aF->Option Int):Prop:=∀a0 a1 r,f a0 a1=some r->∀(q:Pa) (m:M) (vs:List V) (T0:V),vs.map V.weak1=[.agg ([T0,.list .none (a0.gV.map (cI .i64)),.list .none (a0.lW.map (cI .u32)),.list .none (a0.iG.map (cI .u32))]),.agg ((aF.C a1))]/\Rd m.hp T0 aM.C 3 a0.bO->SC prog 39 vs q m (λv Y=>v=.li r/\Y=m)
theorem Cy {fY} (Cx:oL fY) (n:Nat):oL (eH fY n):=haveI:nQ 39 (oL fY):=⟨Cx⟩;λa0 a1 r h q m vs T0 ⟨hv,hrd⟩=>SC.wva hv (by rcases Rd.cases hrd with ⟨rfl,_⟩ | ⟨_,rfl,_⟩ <;> exact dB func39 call39 ntmps39 results39 rfl (wk (.c .z (.l [.v 5 Int λy=>.li y,.v 21 Int λy=>.li y] [2,19,20] [2] [] none .z .z)) q m (eH.eq_1 _ _ _ _) h))
theorem wV:∀n,oL (iA n)
 | 0=>λ_ _ _ h=>dO h
 | n+1=>Cy (wV n) n
instance:nQ 39 (∀n,oL (iA n)):=⟨wV⟩
def Iy (f:aM->(List Int)->Option Int):Prop:=∀a0 a1 r,f a0 a1=some r->CJ prog 42 [.agg ((aM.C a0)),.list .none (a1.map (cI .u32))] (.lw r)
theorem Md:Iy (wJ):=λa0 a1 r h q m vs hv=>SC.wva hv (dB func42 call42 ntmps42 results42 rfl (wk .z q m (wJ.eq_1 _ _) h))
instance:nQ 42 (Iy wJ):=⟨Md⟩
def Hb (f:Bool->Option Int):Prop:=∀a0 r,f a0=some r->CJ prog 43 [.lb a0] (.lw r)
theorem KQ:Hb (uH):=λa0 r h q m vs hv=>SC.wva hv (dB func43 call43 ntmps43 results43 rfl (wk .z q m (uH.eq_1 _) h))
instance:nQ 43 (Hb uH):=⟨KQ⟩
def JB (f:Int->Int->Option Int):Prop:=∀a0 a1 r,f a0 a1=some r->CJ prog 44 [.li a0,.lw a1] (.lw r)
theorem Nk:JB (Ad):=λa0 a1 r h q m vs hv=>SC.wva hv (dB func44 call44 ntmps44 results44 rfl (wk .z q m (Ad.eq_1 _ _) h))
instance:nQ 44 (JB Ad):=⟨Nk⟩
def vL (f:Int->Int->Option Int):Prop:=∀a0 a1 r,f a0 a1=some r->CJ prog 102 [.lw a0,.li a1] (.lw r)
theorem Cs:vL (lT):=λa0 a1 r h q m vs hv=>SC.wva hv (dB func102 call102 ntmps102 results102 rfl (wk .z q m (lT.eq_1 _ _) h))
instance:nQ 102 (vL lT):=⟨Cs⟩
def Hc (f:Int->Int->Int->Option Int):Prop:=∀a0 a1 a2 r,f a0 a1 a2=some r->CJ prog 73 [.li a0,.lw a1,.lw a2] (.lw r)
theorem KR:Hc (tE):=λa0 a1 a2 r h q m vs hv=>SC.wva hv (dB func73 call73 ntmps73 results73 rfl (wk .z q m (tE.eq_1 _ _ _) h))
instance:nQ 73 (Hc tE):=⟨KR⟩
def Jz (f:Int->Int->Int->Option (Int × Bool)):Prop:=∀a0 a1 a2 r,f a0 a1 a2=some r->CJ prog 45 [.li a0,.lw a1,.lw a2] (.tup [.lw r.1,.lb r.2])
theorem Ni:Jz (jV):=λa0 a1 a2 r h q m vs hv=>SC.wva hv (dB func45 call45 ntmps45 results45 rfl (wk .z q m (jV.eq_1 _ _ _) h))
instance:nQ 45 (Jz jV):=⟨Ni⟩
def Af (f:aM->(List Int)->Option (Int × Bool)):Prop:=∀a0 a1 r,f a0 a1=some r->CJ prog 16 [.agg ((aM.C a0)),.list .none (a1.map (cI .u32))] (.tup [.lw r.1,.lb r.2])
theorem JD {tT} (Kj:Af tT) (n:Nat):Af (lB tT n):=haveI:nQ 16 (Af tT):=⟨Kj⟩;λa0 a1 r h q m vs hv=>SC.wva hv (dB func16 call16 ntmps16 results16 rfl (wk (.c .z (.j 2 4 26 [.v 32 Bool λy=>.lb y] [1,2,6,7] [2] [] none .z .z)) q m (lB.eq_1 _ _ _ _) h))
theorem Hg:∀n,Af (kP n)
 | 0=>λ_ _ _ h=>dO h
 | n+1=>JD (Hg n) n
instance:nQ 16 (∀n,Af (kP n)):=⟨Hg⟩
def Lq (f:Int->Option aM):Prop:=∀a0 r,f a0=some r->CJ prog 71 [.lw a0] (.agg ((aM.C r)))
theorem OR:Lq (FY):=λa0 r h q m vs hv=>SC.wva hv (dB func71 call71 ntmps71 results71 rfl (wk .z q m (FY.eq_1 _) h))
instance:nQ 71 (Lq FY):=⟨OR⟩
def Ae (f:aM->Option aM):Prop:=∀a0 r,f a0=some r->CJ prog 40 [.agg ((aM.C a0))] (.agg ((aM.C r)))
theorem JC {qZ} (Ki:Ae qZ) (n:Nat):Ae (nA qZ n):=haveI:nQ 40 (Ae qZ):=⟨Ki⟩;λa0 r h q m vs hv=>SC.wva hv (dB func40 call40 ntmps40 results40 rfl (wk (.l [.v 4 Bool λy=>.lb y,.v 21 Int λy=>.li y,.b 3 aM λy=>[.li y.fR,.lw y.N_,.list .self (y.aO.map aM.C)]] [2,3,19,20] [2] [] none (.c (.j 2 8 23 [.v 4 Bool λy=>.lb y] [2,3,19,20,21] [2,3] [] none .z .z) .z) .z) q m (nA.eq_1 _ _ _) h))
theorem Hf:∀n,Ae (oN n)
 | 0=>λ_ _ h=>dO h
 | n+1=>JC (Hf n) n
instance:nQ 40 (∀n,Ae (oN n)):=⟨Hf⟩
def II (f:cF->Option Int):Prop:=∀a0 r,f a0=some r->∀(q:Pa) (m:M) (vs:List V),vs.map V.weak1=[.ls a0]/\m.gl 0=.eptr [(cA bY.C dQ)] 0 0->SC prog 72 vs q m (λv Y=>v=.li r/\Y=m)
theorem Mw (n:Nat):II (Bl n):=λa0 r h q m vs ⟨hv,_⟩=>SC.wva hv (dB func72 call72 ntmps72 results72 rfl (wk (.l [.v 6 Int λy=>.li y] [0,5] [] [] none .z .z) q m (Bl.eq_1 _ _) h))
instance:nQ 72 (∀n,II (Bl n)):=⟨Mw⟩
def pF (f:bL->aF->Option aM):Prop:=∀a0 a1 r,f a0 a1=some r->∀(q:Pa) (m:M) (vs:List V) (T0:V),vs.map V.weak1=[.agg ([T0,.list .none (a0.gV.map (cI .i64)),.list .none (a0.lW.map (cI .u32)),.list .none (a0.iG.map (cI .u32))]),.agg ((aF.C a1))]/\m.gl 0=.eptr [(cA bY.C dQ)] 0 0/\Rd m.hp T0 aM.C 3 a0.bO->SC prog 41 vs q m (λv Y=>v=.agg ((aM.C r))/\Y=m)
theorem Dz {gL} (Dy:pF gL) (n:Nat):pF (eS gL n):=haveI:nQ 41 (pF gL):=⟨Dy⟩;λa0 a1 r h q m vs T0 ⟨hv,_,hrd⟩=>SC.wva hv (by rcases Rd.cases hrd with ⟨rfl,_⟩ | ⟨_,rfl,_⟩ <;> exact dB func41 call41 ntmps41 results41 rfl (wk (.c .z (.c .z (.l [.v 30 Int λy=>.li y,.b 5 aM λy=>[.li y.fR,.lw y.N_,.list .self (y.aO.map aM.C)]] [2,4,5,28,29] [2,4] [] none .z .z))) q m (eS.eq_1 _ _ _ _) h))
theorem yF:∀n,pF (iM n)
 | 0=>λ_ _ _ h=>dO h
 | n+1=>Dz (yF n) n
instance:nQ 41 (∀n,pF (iM n)):=⟨yF⟩
def BR (f:bL->aF->Option (aM × Int)):Prop:=∀a0 a1 r,f a0 a1=some r->∀(q:Pa) (m:M) (vs:List V) (T0:V),vs.map V.weak1=[.agg ([T0,.list .none (a0.gV.map (cI .i64)),.list .none (a0.lW.map (cI .u32)),.list .none (a0.iG.map (cI .u32))]),.agg ((aF.C a1))]/\m.gl 0=.eptr [(cA bY.C dQ)] 0 0/\Rd m.hp T0 aM.C 3 a0.bO->SC prog 15 vs q m (λv Y=>v=.tup [.agg ((aM.C r.1)),.li r.2]/\Y=m)
theorem Gr (n:Nat):BR (kG n):=λa0 a1 r h q m vs T0 ⟨hv,_,hrd⟩=>SC.wva hv (by rcases Rd.cases hrd with ⟨rfl,_⟩ | ⟨_,rfl,_⟩ <;> exact dB func15 call15 ntmps15 results15 rfl (wk .z q m (kG.eq_1 _ _ _) h))
instance:nQ 15 (∀n,BR (kG n)):=⟨Gr⟩
def xO (f:aS->aF->Option (aM × aS)):Prop:=∀a0 a1 r,f a0 a1=some r->∀(q:Pa) (m:M) (vs:List V) (P0:Pa) (W:Pa),vs.map V.weak1=[.ptr P0 0,.agg ((aF.C a1))]/\m.blk P0=some ([.vec W 3 a0.c_.bO.length,.list .self (a0.c_.gV.map (cI .i64)),.list .self (a0.c_.lW.map (cI .u32)),.list .self (a0.c_.iG.map (cI .u32)),.li a0.e_])/\m.gl 0=.eptr [(cA bY.C dQ)] 0 0/\m.hp W=some (a0.c_.bO.map aM.C).flatten->SC prog 65 vs q m (λv Y=>∃vr,v=.agg ((aM.C r.1))/\Y=m.ck P0 ([.vec W 3 r.2.c_.bO.length,.list .self (r.2.c_.gV.map (cI .i64)),.list .self (r.2.c_.lW.map (cI .u32)),.list .self (r.2.c_.iG.map (cI .u32)),.li r.2.e_]) (oY m.hp W (r.2.c_.bO.map aM.C).flatten) vr)
theorem DL (n:Nat):xO (lG n):=λa0 a1 r h q m vs P0 W ⟨hv,w0,_,hkW⟩=>SC.wva hv (SC.ac w0 λ_ _ _=>have hW0:=Ge hkW;dB func65 call65 ntmps65 results65 rfl (wk .z q m (lG.eq_1 _ _ _) h))
instance:nQ 65 (∀n,xO (lG n)):=⟨DL⟩
def oE (f:aS->aF->Option aS):Prop:=∀a0 a1 r,f a0 a1=some r->∀(q:Pa) (m:M) (vs:List V) (P0:Pa) (W:Pa),vs.map V.weak1=[.ptr P0 0,.agg ((aF.C a1))]/\m.blk P0=some ([.vec W 3 a0.c_.bO.length,.list .self (a0.c_.gV.map (cI .i64)),.list .self (a0.c_.lW.map (cI .u32)),.list .self (a0.c_.iG.map (cI .u32)),.li a0.e_])/\m.gl 0=.eptr [(cA bY.C dQ)] 0 0/\m.hp W=some (a0.c_.bO.map aM.C).flatten->SC prog 64 vs q m (λv Y=>∃vr,v=.tup []/\Y=m.ck P0 ([.vec W 3 r.c_.bO.length,.list .self (r.c_.gV.map (cI .i64)),.list .self (r.c_.lW.map (cI .u32)),.list .self (r.c_.iG.map (cI .u32)),.li r.e_]) (oY m.hp W (r.c_.bO.map aM.C).flatten) vr)
theorem Cf {fX} (Cu:oE fX) (n:Nat):oE (oD fX n):=haveI:nQ 64 (oE fX):=⟨Cu⟩;λa0 a1 r h q m vs P0 W ⟨hv,w0,_,hkW⟩=>SC.wva hv (SC.ac w0 λ_ _ _=>have hW0:=Ge hkW;dB func64 call64 ntmps64 results64 rfl (wk (.l [.v 11 Int λy=>.li y,.w 0 aS (λy=>[.vec W 3 y.c_.bO.length,.list .self (y.c_.gV.map (cI .i64)),.list .self (y.c_.lW.map (cI .u32)),.list .self (y.c_.iG.map (cI .u32)),.li y.e_]) λy h=>oY h W (y.c_.bO.map aM.C).flatten] [0,3,9,10] [3] [] (some P0) .z (.j 2 6 19 [.v 31 Bool λy=>.lb y] [0,3] [0,3] [] (some P0) .z (.c (.l [.v 35 Int λy=>.li y,.w 0 aS (λy=>[.vec W 3 y.c_.bO.length,.list .self (y.c_.gV.map (cI .i64)),.list .self (y.c_.lW.map (cI .u32)),.list .self (y.c_.iG.map (cI .u32)),.li y.e_]) λy h=>oY h W (y.c_.bO.map aM.C).flatten] [0,33,34] [] [] (some P0) .z .z) .z))) q m (oD.eq_1 _ _ _ _) h))
theorem wO:∀n,oE (lI n)
 | 0=>λ_ _ _ h=>dO h
 | n+1=>Cf (wO n) n
instance:nQ 64 (∀n,oE (lI n)):=⟨wO⟩
def Lp (f:(List Int)->Int->Int->Option Int):Prop:=∀a0 a1 a2 r,f a0 a1 a2=some r->CJ prog 138 [.list .none (a0.map (cI .u32)),.lw a1,.lw a2] (.lw r)
theorem OQ:Lp (El):=λa0 a1 a2 r h q m vs hv=>SC.wva hv (dB func138 call138 ntmps138 results138 rfl (wk .z q m (El.eq_1 _ _ _) h))
instance:nQ 138 (Lp El):=⟨OQ⟩
def CC (f:Int->Int->Int->Option (Int × Int)):Prop:=∀a0 a1 a2 r,f a0 a1 a2=some r->CJ prog 194 [.lw a0,.lw a1,.lw a2] (.tup [.lw r.1,.lw r.2])
theorem GL:CC (qJ):=λa0 a1 a2 r h q m vs hv=>SC.wva hv (dB func194 call194 ntmps194 results194 rfl (wk .z q m (qJ.eq_1 _ _ _) h))
instance:nQ 194 (CC qJ):=⟨GL⟩
def JA (f:bW->bW->Option bW):Prop:=∀a0 a1 r,f a0 a1=some r->∀(q:Pa) (m:M) (vs:List V),vs.map V.weak1=[.agg ((bW.C a0)),.agg ((bW.C a1))]/\m.gl 2=.eptr [[.lw 0,.lw 4294967295]] 0 0->SC prog 170 vs q m (λv Y=>v=.agg ((bW.C r))/\Y=m)
theorem Nj:JA (Fp):=λa0 a1 r h q m vs ⟨hv,_⟩=>SC.wva hv (dB func170 call170 ntmps170 results170 rfl (wk .z q m (Fp.eq_1 _ _) h))
instance:nQ 170 (JA Fp):=⟨Nj⟩
def CB (f:Int->Int->Option (Int × Int)):Prop:=∀a0 a1 r,f a0 a1=some r->CJ prog 97 [.lw a0,.lw a1] (.tup [.lw r.1,.lw r.2])
theorem GK:CB (rX):=λa0 a1 r h q m vs hv=>SC.wva hv (dB func97 call97 ntmps97 results97 rfl (wk .z q m (rX.eq_1 _ _) h))
instance:nQ 97 (CB rX):=⟨GK⟩
def Fq (f:bW->bW->Option bW):Prop:=∀a0 a1 r,f a0 a1=some r->∀(q:Pa) (m:M) (vs:List V),vs.map V.weak1=[.agg ((bW.C a0)),.agg ((bW.C a1))]/\m.gl 2=.eptr [[.lw 0,.lw 4294967295]] 0 0->SC prog 171 vs q m (λv Y=>v=.agg ((bW.C r))/\Y=m)
theorem IP:Fq (xG):=λa0 a1 r h q m vs ⟨hv,_⟩=>SC.wva hv (dB func171 call171 ntmps171 results171 rfl (wk .z q m (xG.eq_1 _ _) h))
instance:nQ 171 (Fq xG):=⟨IP⟩
def Gv (f:Int->bW->bW->Option bW):Prop:=∀a0 a1 a2 r,f a0 a1 a2=some r->∀(q:Pa) (m:M) (vs:List V),vs.map V.weak1=[.li a0,.agg ((bW.C a1)),.agg ((bW.C a2))]/\m.gl 2=.eptr [[.lw 0,.lw 4294967295]] 0 0->SC prog 139 vs q m (λv Y=>v=.agg ((bW.C r))/\Y=m)
theorem Jy:Gv (wI):=λa0 a1 a2 r h q m vs ⟨hv,_⟩=>SC.wva hv (dB func139 call139 ntmps139 results139 rfl (wk .z q m (wI.eq_1 _ _ _) h))
instance:nQ 139 (Gv wI):=⟨Jy⟩
def xF (f:aM->(List Int)->(List Int)->Option bW):Prop:=∀a0 a1 a2 r,f a0 a1 a2=some r->∀(q:Pa) (m:M) (vs:List V),vs.map V.weak1=[.agg ((aM.C a0)),.list .none (a1.map (cI .u32)),.list .none (a2.map (cI .u32))]/\m.gl 2=.eptr [[.lw 0,.lw 4294967295]] 0 0->SC prog 103 vs q m (λv Y=>v=.agg ((bW.C r))/\Y=m)
theorem IO {sP} (IV:xF sP) (n:Nat):xF (nR sP n):=haveI:nQ 103 (xF sP):=⟨IV⟩;λa0 a1 a2 r h q m vs ⟨hv,_⟩=>SC.wva hv (dB func103 call103 ntmps103 results103 rfl (wk .z q m (nR.eq_1 _ _ _ _ _) h))
theorem Gw:∀n,xF (tD n)
 | 0=>λ_ _ _ _ h=>dO h
 | n+1=>IO (Gw n) n
instance:nQ 103 (∀n,xF (tD n)):=⟨Gw⟩
def He (f:aM->(List Int)->(List Int)->Option (Int × Int)):Prop:=∀a0 a1 a2 r,f a0 a1 a2=some r->∀(q:Pa) (m:M) (vs:List V),vs.map V.weak1=[.agg ((aM.C a0)),.list .none (a1.map (cI .u32)),.list .none (a2.map (cI .u32))]/\m.gl 2=.eptr [[.lw 0,.lw 4294967295]] 0 0->SC prog 74 vs q m (λv Y=>v=.tup [.lw r.1,.lw r.2]/\Y=m)
theorem KS (n:Nat):He (zK n):=λa0 a1 a2 r h q m vs ⟨hv,_⟩=>SC.wva hv (dB func74 call74 ntmps74 results74 rfl (wk .z q m (zK.eq_1 _ _ _ _) h))
instance:nQ 74 (∀n,He (zK n)):=⟨KS⟩
def Av (f:bL->aF->Option (Int × Int)):Prop:=∀a0 a1 r,f a0 a1=some r->∀(q:Pa) (m:M) (vs:List V) (T0:V),vs.map V.weak1=[.agg ([T0,.list .none (a0.gV.map (cI .i64)),.list .none (a0.lW.map (cI .u32)),.list .none (a0.iG.map (cI .u32))]),.agg ((aF.C a1))]/\m.gl 0=.eptr [(cA bY.C dQ)] 0 0/\m.gl 2=.eptr [[.lw 0,.lw 4294967295]] 0 0/\Rd m.hp T0 aM.C 3 a0.bO->SC prog 46 vs q m (λv Y=>v=.tup [.lw r.1,.lw r.2]/\Y=m)
theorem Fj (n:Nat):Av (eZ n):=λa0 a1 r h q m vs T0 ⟨hv,_,_,hrd⟩=>SC.wva hv (by rcases Rd.cases hrd with ⟨rfl,_⟩ | ⟨_,rfl,_⟩ <;> exact dB func46 call46 ntmps46 results46 rfl (wk .z q m (eZ.eq_1 _ _ _) h))
instance:nQ 46 (∀n,Av (eZ n)):=⟨Fj⟩
def xP (f:aS->aB->Option aS):Prop:=∀a0 a1 r,f a0 a1=some r->∀(q:Pa) (m:M) (vs:List V) (P0:Pa) (W:Pa),vs.map V.weak1=[.ptr P0 0,.agg ((aB.C a1))]/\m.blk P0=some ([.vec W 3 a0.c_.bO.length,.list .self (a0.c_.gV.map (cI .i64)),.list .self (a0.c_.lW.map (cI .u32)),.list .self (a0.c_.iG.map (cI .u32)),.li a0.e_])/\m.gl 0=.eptr [(cA bY.C dQ)] 0 0/\m.gl 2=.eptr [[.lw 0,.lw 4294967295]] 0 0/\m.hp W=some (a0.c_.bO.map aM.C).flatten->SC prog 66 vs q m (λv Y=>∃vr,v=.tup []/\Y=m.ck P0 ([.vec W 3 r.c_.bO.length,.list .self (r.c_.gV.map (cI .i64)),.list .self (r.c_.lW.map (cI .u32)),.list .self (r.c_.iG.map (cI .u32)),.li r.e_]) (oY m.hp W (r.c_.bO.map aM.C).flatten) vr)
theorem DM (n:Nat):xP (lH n):=λa0 a1 r h q m vs P0 W ⟨hv,w0,_,_,hkW⟩=>SC.wva hv (SC.ac w0 λ_ _ _=>have hW0:=Ge hkW;dB func66 call66 ntmps66 results66 rfl (wk .z q m (lH.eq_1 _ _ _) h))
instance:nQ 66 (∀n,xP (lH n)):=⟨DM⟩
def qD (f:aS->(List aB)->Option aS):Prop:=∀a0 a1 r,f a0 a1=some r->∀(q:Pa) (m:M) (vs:List V) (P0:Pa) (W:Pa),vs.map V.weak1=[.ptr P0 0,.list .none (a1.map aB.C)]/\m.blk P0=some ([.vec W 3 a0.c_.bO.length,.list .self (a0.c_.gV.map (cI .i64)),.list .self (a0.c_.lW.map (cI .u32)),.list .self (a0.c_.iG.map (cI .u32)),.li a0.e_])/\m.gl 0=.eptr [(cA bY.C dQ)] 0 0/\m.gl 2=.eptr [[.lw 0,.lw 4294967295]] 0 0/\m.hp W=some (a0.c_.bO.map aM.C).flatten->SC prog 36 vs q m (λv Y=>∃vr,v=.tup []/\Y=m.ck P0 ([.vec W 3 r.c_.bO.length,.list .self (r.c_.gV.map (cI .i64)),.list .self (r.c_.lW.map (cI .u32)),.list .self (r.c_.iG.map (cI .u32)),.li r.e_]) (oY m.hp W (r.c_.bO.map aM.C).flatten) vr)
theorem BA {dL} (BO:qD dL) (n:Nat):qD (nH dL n):=haveI:nQ 36 (qD dL):=⟨BO⟩;λa0 a1 r h q m vs P0 W ⟨hv,w0,_,_,hkW⟩=>SC.wva hv (SC.ac w0 λ_ _ _=>have hW0:=Ge hkW;dB func36 call36 ntmps36 results36 rfl (wk (.l [.v 11 Int λy=>.li y,.w 0 aS (λy=>[.vec W 3 y.c_.bO.length,.list .self (y.c_.gV.map (cI .i64)),.list .self (y.c_.lW.map (cI .u32)),.list .self (y.c_.iG.map (cI .u32)),.li y.e_]) λy h=>oY h W (y.c_.bO.map aM.C).flatten] [0,9,10] [] [] (some P0) (.c (.j 11 1 36 [.w 0 aS (λy=>[.vec W 3 y.c_.bO.length,.list .self (y.c_.gV.map (cI .i64)),.list .self (y.c_.lW.map (cI .u32)),.list .self (y.c_.iG.map (cI .u32)),.li y.e_]) λy h=>oY h W (y.c_.bO.map aM.C).flatten] [0,9,10,11] [] [] (some P0) (.l [.v 18 Int λy=>.li y,.w 0 aS (λy=>[.vec W 3 y.c_.bO.length,.list .self (y.c_.gV.map (cI .i64)),.list .self (y.c_.lW.map (cI .u32)),.list .self (y.c_.iG.map (cI .u32)),.li y.e_]) λy h=>oY h W (y.c_.bO.map aM.C).flatten] [0,5,9,10,11,16,17] [5] [] (some P0) (.c (.j 1 3 50 [.w 0 aS (λy=>[.vec W 3 y.c_.bO.length,.list .self (y.c_.gV.map (cI .i64)),.list .self (y.c_.lW.map (cI .u32)),.list .self (y.c_.iG.map (cI .u32)),.li y.e_]) λy h=>oY h W (y.c_.bO.map aM.C).flatten] [0,5,9,10,11,16,17,18] [5] [] (some P0) (.j 2 7 32 [.v 47 Bool λy=>.lb y] [0,5,7,9,10,11,16,17,18] [0,5,7] [] (some P0) .z .z) .z) .z) (.j 2 12 20 [.v 73 Bool λy=>.lb y] [0,5,9,10,11] [0,5] [] (some P0) .z .z)) .z) .z) .z) q m (nH.eq_1 _ _ _ _) h))
theorem vH:∀n,qD (fN n)
 | 0=>λ_ _ _ h=>dO h
 | n+1=>BA (vH n) n
def FN (f:aT->Option (bL × Int)):Prop:=∀a0 r,f a0=some r->∀(q:Pa) (m:M) (vs:List V),vs.map V.weak1=[.agg ((aT.C a0))]/\m.gl 0=.eptr [(cA bY.C dQ)] 0 0/\m.gl 2=.eptr [[.lw 0,.lw 4294967295]] 0 0->SC prog 11 vs q m (λv Y=>v=.tup [.agg ((bL.C r.1)),.li r.2]/\Y=m)
theorem IZ (n:Nat):FN (tJ n):=by
 rintro a0 r h q m vs ⟨hv,hg0,hg2⟩;refine SC.wv hv ?_;refine SC.freshH λhfq=>?_;refine SC.hpq ?_;refine sY func11 call11 ntmps11 results11 ?_;unfold tJ at h;refine aK (aQ λK hK=>?_);have K1:=qJ2 hg0 hg2;simp only [go_sem,seval,aN,rJ,BX,dH,aW,aP,aV,dR,gD hfq,eP hfq,K1]
 first | apply hK | (refine ⟨by omega,?_⟩;apply hK)
 simp only [aC,aA];refine aK (aK ?_);obtain ⟨y3,j3,h⟩:=aI h;refine yL 12 (λX Y=>X 1=.ptr (0::q) 0/\X 2=.ptr (1::q) 0/\X 15=.lb y3/\Y.blk (0::q)=some ((aT.C a0))/\Y.blk (1::q)=some ([.list .self ([].map aM.C),.list .self ([].map (cI .i64)),.list .self ([].map (cI .u32)),.list .self ([].map (cI .u32))])/\Y.gl=m.gl/\Y.hp=m.hp/\m.back q Y=m) ?_ ?_
 ·rcases xW j3 with ⟨c4,j3⟩ | ⟨c4,j3⟩
  ·refine aQ λK hK=>?_;simp only [go_sem,seval,aN,rJ,BX,dH,aW,aP,aV,dR,gD hfq,eP hfq,c4,K1]
   first | apply hK | (refine ⟨by omega,?_⟩;apply hK)
   simp only [aC,aA];obtain rfl:=bU j3;refine ⟨by decide,?_⟩;simp only [go_sem,seval,aW,aV,aP,aZ,aN,rJ,BX,dH,dR,gD hfq,eP hfq,c4,K1]
  ·obtain ⟨x5,h6,j3⟩:=aI j3;refine aQ λK hK=>?_;simp only [go_sem,seval,aN,rJ,BX,dH,aW,aP,aV,dR,gD hfq,eP hfq,c4,K1];refine SC.by_ (FM n a0.bQ _ h6 _ _ _ (by simp only [go_sem,seval,aN,rJ,BX,dH,aW,aP,aV,dR,gD hfq,eP hfq,c4,K1])) ?_;simp only [go_sem,seval,aN,rJ,BX,dH,aW,aP,aV,dR,gD hfq,eP hfq,c4,K1]
   first | apply hK | (refine ⟨by omega,?_⟩;apply hK)
   simp only [aC,aA];obtain rfl:=bU j3;refine ⟨by decide,?_⟩;simp only [go_sem,seval,aW,aV,aP,aZ,aN,rJ,BX,dH,dR,gD hfq,eP hfq,c4,K1]
 ·intro E7 m8 e9 _;simp only [aC,aA];refine eT h (λc10 h=>?_) (λc10 h=>?_)
  ·refine aK (aQ λK hK=>?_);simp only [go_sem,seval,aN,rJ,BX,dH,aW,aP,aV,dR,gD hfq,eP hfq,c10,e9,K1]
   first | apply hK | (refine ⟨by omega,?_⟩;apply hK)
   simp only [aC,aA];refine cU ?_
   try simp only [aU,aR]
   cases h;refine ⟨by simp,?_⟩;simp only [go_sem,seval,aW,aV,aP,aZ,aN,rJ,BX,dH,dR,gD hfq,eP hfq,c10,e9,K1]
  ·refine cN ?_
   try simp only [aC,aA]
   refine aK ?_;obtain ⟨x11,h14,h⟩:=aI h;obtain ⟨⟨f15,f16⟩,h⟩:=cH h;refine wY λf17=>?_;have f12:m.hp (15::q)=none:=by have:=f17 15 (by omega);simpa only [go_sem,↓reduceIte,Nat.reduceEqDiff,Nat.reduceAdd,Nat.reduceMul,Nat.reduceLT,Nat.reduceLeDiff,reduceCtorEq,Int.reduceLE,Int.reduceLT,Int.reduceToNat,UInt8.reduceToNat,gD hfq,eP hfq,c10,f15,f16,e9,K1] using this
   refine SW_px2 [0,1,3,7,0,0,32,127,255,511,1023] [0,1,2,4,5] 3 6 [7,8,9,10] rfl (by kernel_rfl) λK hK=>?_;have g18_3:List.filter (λj=>!sL [0,1,3,7,0,0,32,127,255,511,1023] j 3) [0,1,2,4,5].reverse=[5,4]:=by decide
   have g19_6:List.filter (λj=>!sL [0,1,3,7,0,0,32,127,255,511,1023] j 6) [5,4]=[4]:=by decide
   have g20_9:List.filter (λj=>!sL [0,1,3,7,0,0,32,127,255,511,1023] j 9) [8,7,4]=[]:=by decide
   have g21_6:List.filter (λj=>!sL [0,1,3,7,0,0,32,127,255,511,1023] j 6) [0,1,2,4,5].reverse=[4,2,1,0]:=by decide
   have g22_3:List.filter (λj=>!sL [0,1,3,7,0,0,32,127,255,511,1023] j 3) [4,2,1,0]=[4]:=by decide
   have K2:=qJ6 K1 f12 c10 f15 f16 e9;simp only [go_sem,seval,KG,QL,CS,g18_3,g19_6,g20_9,g21_6,g22_3,aN,rJ,BX,dH,aW,aP,aV,dR,gD hfq,eP hfq,K2];refine Tl (T:=?Tw) ?kw (λkey=>SC.by_ (rZ [(4294967295:Int)] (4:Int) _ h14 _ _ _ (by simp only [go_sem,seval,aN,rJ,BX,dH,aW,aP,aV,dR,gD hfq,eP hfq,K2])) ?aw) (λkey=>SC.by_ (rZ [(4294967295:Int)] (4:Int) _ h14 _ _ _ (by simp only [go_sem,seval,aN,rJ,BX,dH,aW,aP,aV,dR,gD hfq,eP hfq,K2])) ?bw)
   case aw=>simp only [go_sem,seval,KG,QL,CS,g18_3,g19_6,g20_9,g21_6,g22_3,aN,rJ,BX,dH,aW,aP,aV,dR,gD hfq,eP hfq,K2];exact key
   case bw=>simp only [go_sem,seval,Int.reduceToNat,UInt8.reduceToNat,KG,QL,CS,g18_3,g19_6,g20_9,g21_6,g22_3,updC (show (23=20)=False by simp),aN,rJ,BX,dH,aW,aP,aV,dR,gD hfq,eP hfq,K2];exact key
   first | apply hK | (refine ⟨by omega,?_⟩;apply hK)
   simp only [aC,aA];refine SW_hnil (id:=(15::q)) (vs:=(List.replicate a0.aX.length [.li 0,.lw 0,.nilv]).flatten) (vs':=((List.replicate a0.aX.length aM.Z).map aM.C).flatten) (by simp only [go_sem,seval,aN,rJ,BX,dH,aW,aP,aV,dR,gD hfq,eP hfq,K2]) (zD.mk (f:=aM.C) (z:=aM.Z) (by rw [show aM.C aM.Z=[.li 0,.lw 0,.list .none []] from by rw [aM.C_eq];rfl];exact ⟨.inl rfl,.inl rfl,.inr ⟨rfl,rfl⟩,trivial⟩) a0.aX.length) ?_;refine aK (aK ?_);obtain ⟨⟨f23,f24⟩,h⟩:=cH h;refine aQ λK hK=>?_;simp only [go_sem,seval,KG,QL,aN,rJ,BX,dH,aW,aP,aV,dR,gD hfq,eP hfq,f23,f24,K2]
   first | apply hK | (refine ⟨by omega,?_⟩;apply hK)
   simp only [aC,aA];refine dM ?_;obtain ⟨y28,j28,h⟩:=aI h;refine wZ (λc X Y=>∃v26 v27,rY a0 c v26 v27=some y28/\X 1=.ptr (0::q) 0/\X 2=.ptr (1::q) 0/\X 4=.ptr (21::q) 0/\X 31=.list .none ((a0.aX.take a0.bC.toNat).map aL.C)/\X 32=.li ((a0.aX.take a0.bC.toNat).length:Int)/\X 33=.li v26/\Y.blk (21::q)=some ([.vec (15::q) 3 v27.c_.bO.length,.list .self (v27.c_.gV.map (cI .i64)),.list .self (v27.c_.lW.map (cI .u32)),.list .self (v27.c_.iG.map (cI .u32)),.li v27.e_])/\Y.blk (0::q)=some ((aT.C a0))/\Y.blk (1::q)=some ([.list .self ([].map aM.C),.list .self ([].map (cI .i64)),.list .self ([].map (cI .u32)),.list .self ([].map (cI .u32))])/\Y.gl=m.gl/\Y.hp=oY m.hp (15::q) (v27.c_.bO.map aM.C).flatten/\(m.back q Y).seth m.hp=m) n ⟨(0:Int),(aS.mk (bL.mk (List.replicate a0.aX.length aM.Z) [] [(0:Int),(0:Int),(0:Int),(0:Int)] x11) (0:Int)),j28,?_⟩ ?_
   ·simp only [go_sem,seval,aW,aV,aP,aZ,aN,rJ,BX,dH,dR,gD hfq,eP hfq,f23,f24,K2]
   rintro i25 c29 E30 m31 ⟨v26,v27,j28,e32⟩ _
   rcases c29 with _ | c29
   ·cases j28
   rw [rY] at j28;refine aK (aQ λK hK=>?_);have K3:=qJ8 K1 f12 c10 f15 f16 f23 f24 e32;simp only [go_sem,seval,KG,QL,aN,rJ,BX,dH,aW,aP,aV,dR,gD hfq,eP hfq,K3]
   first | apply hK | (refine ⟨by omega,?_⟩;apply hK)
   simp only [aC,aA];refine aK (eT j28 (λc33 j28=>?_) (λc33 j28=>?_))
   ·refine cN ?_
    try simp only [aC,aA]
    refine aK ?_;obtain ⟨y34,j34,j28⟩:=aI j28;refine yL 20 (λX Y=>X 1=.ptr (0::q) 0/\X 2=.ptr (1::q) 0/\X 4=.ptr (21::q) 0/\X 31=.list .none ((a0.aX.take a0.bC.toNat).map aL.C)/\X 32=.li ((a0.aX.take a0.bC.toNat).length:Int)/\X 33=.li v26/\Y.blk (21::q)=some ([.vec (15::q) 3 y34.c_.bO.length,.list .self (y34.c_.gV.map (cI .i64)),.list .self (y34.c_.lW.map (cI .u32)),.list .self (y34.c_.iG.map (cI .u32)),.li y34.e_])/\Y.blk (0::q)=some ((aT.C a0))/\Y.blk (1::q)=some ([.list .self ([].map aM.C),.list .self ([].map (cI .i64)),.list .self ([].map (cI .u32)),.list .self ([].map (cI .u32))])/\Y.gl=m.gl/\Y.hp=oY m.hp (15::q) (y34.c_.bO.map aM.C).flatten/\(m.back q Y).seth m.hp=m) ?_ ?_
    ·refine dM (aK ?_);obtain ⟨x35,h40,j34⟩:=aI j34;obtain ⟨f37,f38,f39⟩:=bZ h40;refine aQ λK hK=>?_;have K4:=qJ5 K3 c33 f37 f38 f39;simp only [go_sem,seval,KG,QL,aN,rJ,BX,dH,aW,aP,aV,dR,gD hfq,eP hfq,K4]
     first | apply hK | (refine ⟨by omega,?_⟩;apply hK)
     simp only [aC,aA];refine aK (aQ λK hK=>?_);simp only [go_sem,seval,KG,QL,aN,rJ,BX,dH,aW,aP,aV,dR,gD hfq,eP hfq,K4]
     first | apply hK | (refine ⟨by omega,?_⟩;apply hK)
     simp only [aC,aA];refine eT j34 (λc41 j34=>?_) (λc41 j34=>?_)
     ·obtain ⟨x42,h44,j34⟩:=aI j34;obtain ⟨x43,h48,j34⟩:=aI j34;obtain ⟨f45,f46,f47⟩:=bZ h48;obtain ⟨w49,d50⟩:=NZ (f:=aM.C) (sz:=3) (λx=>by rw [aM.C_eq];rfl) f47;simp only [go_sem,seval] at d50;have f51:(3<=w49.length+1+1+1)=True:=eq_true (by omega);have d52:=Oa (f:=aM.C) (sz:=3) (λx=>by rw [aM.C_eq];rfl) (l:=v27.c_.bO) (i:=v26.toNat) (by have:=f45;have:=f46;omega) x42;simp only [go_sem,seval] at d52;have f53:=flat_le (f:=aM.C) (sz:=3) (l:=v27.c_.bO) (λx=>by rw [aM.C_eq];rfl) (i:=v26.toNat) (by have:=f45;have:=f46;omega);refine mW [(6,0),(7,0),(0,0),(1,0),(2,0),(3,0),(4,1),(5,0),(8,0),(9,0)] 20 λK hK=>?_;have K5:=qJ9 K4 c41 f45 f46 f47 d50 f51 d52 f53;simp only [go_sem,seval,KG,QL,aN,rJ,BX,dH,aW,aP,aV,dR,gD hfq,eP hfq,K5];refine gQ (JE v26 _ h44 _ _ _ (by simp only [go_sem,seval,aN,rJ,BX,dH,aW,aP,aV,dR,gD hfq,eP hfq,K5])) rfl ?_;simp only [go_sem,seval,aN,rJ,BX,dH,aW,aP,aV,dR,gD hfq,eP hfq,K5]
      first | apply hK | (refine ⟨by omega,?_⟩;apply hK)
      simp only [aC,aA];obtain rfl:=bU j34;refine ⟨by decide,?_⟩;simp only [go_sem,seval,aW,aV,aP,aZ,aN,rJ,BX,dH,dR,gD hfq,eP hfq,K5]
     ·refine cN ?_
      try simp only [aC,aA]
      obtain rfl:=bU j34;refine ⟨by decide,?_⟩;simp only [go_sem,seval,aW,aV,aP,aZ,aN,rJ,BX,dH,dR,gD hfq,eP hfq,c41,K4]
    ·intro E54 m55 e56 _;simp only [aC,aA];refine aQ λK hK=>?_;have K6:=qJ9 K1 f12 c10 f15 f16 f23 f24 c33 e56;simp only [go_sem,seval,KG,QL,aN,rJ,BX,dH,aW,aP,aV,dR,gD hfq,eP hfq,K6]
     first | apply hK | (refine ⟨by omega,?_⟩;apply hK)
     simp only [aC,aA];refine ⟨c29,MU _,(i64.wrap (v26+(1:Int))),y34,j28,?_⟩;simp only [go_sem,seval,aW,aV,aP,aZ,aN,rJ,BX,dH,dR,gD hfq,eP hfq,K6]
   ·refine lV ?_
    try simp only [seval,bD,aY,aC,aA]
    obtain rfl:=bU j28;refine aK ?_;obtain ⟨x57,h58,h⟩:=aI h;refine aQ λK hK=>?_;simp only [go_sem,seval,KG,QL,aN,rJ,BX,dH,aW,aP,aV,dR,gD hfq,eP hfq,c33,K3];refine SC.mono (vH n v27 a0.bQ _ h58 _ _ _ (21::q) (15::q) (by simp only [go_sem,seval,aN,rJ,BX,dH,aW,aP,aV,dR,gD hfq,eP hfq,c33,K3])) ?_;rintro _ _ ⟨vr_x57,rfl,rfl⟩;simp only [go_sem,seval,aN,rJ,BX,dH,aW,aP,aV,dR,gD hfq,eP hfq,c33,K3]
    first | apply hK | (refine ⟨by omega,?_⟩;apply hK)
    simp only [aC,aA];refine aK (aK (aQ λK hK=>?_));simp only [go_sem,seval,KG,QL,aN,rJ,BX,dH,aW,aP,aV,dR,gD hfq,eP hfq,c33,K3]
    first | apply hK | (refine ⟨by omega,?_⟩;apply hK)
    simp only [aC,aA];refine eT h (λc59 h=>?_) (λc59 h=>?_)
    ·refine aK (mW [(0,0),(5,0),(1,0),(2,0),(3,0),(4,1),(6,0)] 47 λK hK=>?_);simp only [go_sem,seval,KG,QL,aN,rJ,BX,dH,aW,aP,aV,dR,gD hfq,eP hfq,c33,c59,K3]
     first | apply hK | (refine ⟨by omega,?_⟩;apply hK)
     simp only [aC,aA];refine cU ?_
     try simp only [aU,aR]
     cases h;refine ⟨by simp,?_⟩;simp only [go_sem,seval,aW,aV,aP,aZ,aN,rJ,BX,dH,dR,gD hfq,eP hfq,c33,c59,K3]
    ·refine cN ?_
     try simp only [aC,aA]
     refine aK (SW_frz (p:=(21::q)) (id:=(15::q)) (cs:=[.vec (15::q) 3 x57.c_.bO.length,.list .self (x57.c_.gV.map (cI .i64)),.list .self (x57.c_.lW.map (cI .u32)),.list .self (x57.c_.iG.map (cI .u32)),.li x57.e_]) (off:=0) (sz:=3) (f:=aM.C) (l:=x57.c_.bO) (h0:=m.hp) (by simp only [go_sem,seval,aN,rJ,BX,dH,aW,aP,aV,dR,gD hfq,eP hfq,c33,c59,K3]) rfl (by rfl) (by simp only [go_sem,seval,aN,rJ,BX,dH,aW,aP,aV,dR,gD hfq,eP hfq,c33,c59,K3]) f12 (λx=>by rw [aM.C_eq];rfl) (by decide) ?_);refine aQ λK hK=>?_;have K7:=qJ9 K1 c10 f15 f16 f23 f24 c33 c59 e32;simp only [go_sem,seval,KG,QL,aN,rJ,BX,dH,aW,aP,aV,dR,gD hfq,eP hfq,K7]
     first | apply hK | (refine ⟨by omega,?_⟩;apply hK)
     simp only [aC,aA];refine cU ?_
     try simp only [aU,aR]
     cases h;refine ⟨by simp,?_⟩;simp only [go_sem,seval,aW,aV,aP,aZ,aN,rJ,BX,dH,dR,gD hfq,eP hfq,K7]
instance:nQ 11 (∀n,FN (tJ n)):=⟨IZ⟩
def Aw (f:bL->Int->Option Int):Prop:=∀a0 a1 r,f a0 a1=some r->CJ prog 19 [.agg ((bL.C a0)),.li a1] (.li r)
theorem Fk:Aw (lM):=λa0 a1 r h q m vs hv=>SC.wva hv (dB func19 call19 ntmps19 results19 rfl (wk (.j 2 1 20 [.v 23 Bool λy=>.lb y] [1,2] [2] [] none .z (.c .z (.j 2 4 57 [.v 59 Bool λy=>.lb y] [5] [] [] none .z .z))) q m (lM.eq_1 _ _) h))
instance:nQ 19 (Aw lM):=⟨Fk⟩
def vD (f:Option Bool):Prop:=∀r,f=some r->∀(q:Pa) (m:M) (vs:List V),vs.map V.weak1=[]/\(m.hp=λ_=>none)/\m.gl 0=.eptr [(cA bY.C dQ)] 0 0/\m.gl 1=.eptr [(cA bJ.C cL)] 0 0/\m.gl 2=.eptr [[.lw 0,.lw 4294967295]] 0 0/\m.gl 3=.eptr [(cA cS eV)] 0 0/\m.gl 4=.eptr [(cA cS cD)] 0 0/\m.gl 6=.eptr [(cA (cA cS) cT)] 0 0->SC prog 9 vs q m (λv Y=>v=.lb r/\Y=m)
theorem BZ (n:Nat):vD (lP n):=λr h q m vs ⟨hv,_,_,_,_,_,_,_⟩=>SC.wva hv (dB func9 call9 ntmps9 results9 rfl (wk (.j 2 3 33 [.v 31 Bool λy=>.lb y] [4] [4] [] none .z (.c .z (.j 2 6 55 [.v 0 Bool λy=>.lb y] [] [] [] none .z .z))) q m (lP.eq_1 _) h))
instance:nQ 9 (∀n,vD (lP n)):=⟨BZ⟩
def nV (f:(List aB)->Option (List aF)):Prop:=∀a0 r,f a0=some r->CJ prog 14 [.list .none (a0.map aB.C)] (.list .none (r.map aF.C))
theorem BY {fB} (Ct:nV fB) (n:Nat):nV (nU fB n):=haveI:nQ 14 (nV fB):=⟨Ct⟩;λa0 r h q m vs hv=>SC.wva hv (dB func14 call14 ntmps14 results14 rfl (wk (.s 3 (.l [.o 3 (List aF) λy=>(y.map aF.C),.v 10 Int λy=>.li y] [8,9] [] [] none (.c (.l [.o 3 (List aF) λy=>(y.map aF.C),.v 17 Int λy=>.li y] [5,8,9,10,15,16] [5] [] none (.c (.j 1 3 34 [.o 3 (List aF) λy=>(y.map aF.C)] [5,8,9,10,15,16,17] [5] [] none (.j 2 8 29 [.v 43 Bool λy=>.lb y] [3,5,7,8,9,10,15,16,17] [5,7] [] none .z .z) .z) .z) .z) .z) .z)) q m (nU.eq_1 _ _ _) h))
theorem wL:∀n,nV (iW n)
 | 0=>λ_ _ h=>dO h
 | n+1=>BY (wL n) n
instance:nQ 14 (∀n,nV (iW n)):=⟨wL⟩
def yG (f:bL->aF->Int->Option Bool):Prop:=∀a0 a1 a2 r,f a0 a1 a2=some r->∀(q:Pa) (m:M) (vs:List V),vs.map V.weak1=[.agg ((bL.C a0)),.agg ((aF.C a1)),.li a2]/\m.gl 0=.eptr [(cA bY.C dQ)] 0 0/\m.gl 2=.eptr [[.lw 0,.lw 4294967295]] 0 0->SC prog 17 vs q m (λv Y=>v=.lb r/\Y=m)
theorem Ed (n:Nat):yG (iY n):=λa0 a1 a2 r h q m vs ⟨hv,_,_⟩=>SC.wva hv (dB func17 call17 ntmps17 results17 rfl (wk .z q m (iY.eq_1 _ _ _ _) h))
instance:nQ 17 (∀n,yG (iY n)):=⟨Ed⟩
def sO (f:cF->Int->(List Int)->Int->Option Bool):Prop:=∀a0 a1 a2 a3 r,f a0 a1 a2 a3=some r->∀(q:Pa) (m:M) (vs:List V),vs.map V.weak1=[.list .none (pR a0),.li a1,.list .none (a2.map (cI .u32)),.li a3]/\(m.hp=λ_=>none)/\m.gl 0=.eptr [(cA bY.C dQ)] 0 0/\m.gl 1=.eptr [(cA bJ.C cL)] 0 0/\m.gl 2=.eptr [[.lw 0,.lw 4294967295]] 0 0/\m.gl 3=.eptr [(cA cS eV)] 0 0/\m.gl 4=.eptr [(cA cS cD)] 0 0/\m.gl 6=.eptr [(cA (cA cS) cT)] 0 0->SC prog 4 vs q m (λv Y=>v=.lb r/\Y=m)
theorem yP (n:Nat):sO (jX n):=λa0 a1 a2 a3 r h q m vs ⟨hv,_,_,_,_,_,_,_⟩=>SC.wva hv (dB func4 call4 ntmps4 results4 rfl (wk (.c .z (.c .z (.j 2 7 36 [.v 50 Bool λy=>.lb y] [2,3,9,12,13] [12,9] [] none .z (.c .z (.s 14 (.l [.o 14 (List Int) λy=>(y.map (cI .u32)),.v 56 Int λy=>.li y] [2,3,9,12,55] [12,9] [] none (.c (.j 1 1 37 [.o 14 (List Int) λy=>(y.map (cI .u32))] [2,3,9,12,55,56] [12,9] [] none .z .z) .z) (.l [.v 94 Int λy=>.li y] [3,9,12,14,93] [12,9] [] none .z (.l [.v 113 Int λy=>.li y] [3,12,14,111,112] [12] [] none (.c (.c .z (.j 2 31 37 [.v 143 Bool λy=>.lb y] [3,12,14,111,112,113] [12] [] none .z .z)) .z) .z)))))))) q m (jX.eq_1 _ _ _ _ _) h))
