import Derived.Test.YtnnomaboaiokeaaGreatDoorWGFw
import Derived.Test.YtnnomaboaiokeaaGreatDoorWVt2
namespace Go.Proofs.YtnnomaboaiokeaaGreatDoor.Abs
open Go.RowKit Tryz
open IntKind (i64 u32 u64 u8)
set_option linter.all false
set_option maxRecDepth 10000
set_option maxHeartbeats 2000000
open Tryz
instance:LE aK.C 3:=⟨λx=>by rw [aK.C_eq];rfl⟩
def Aw (f:cF->Int->Option (aT × bG × Bool)):Prop:=∀a0 a1 r,f a0 a1=some r->∀(q:Pa) (m:M) (vs:List V),vs.map V.weak1=[.list .none (pZ a0),.li a1]/\(m.hp=λ_=>none)/\m.gl 1=.eptr [(cA bJ.C cM)] 0 0/\m.gl 3=.eptr [(cA cS fH)] 0 0/\m.gl 4=.eptr [(cA cS cD)] 0 0/\m.gl 6=.eptr [(cA (cA cS) cU)] 0 0->SC prog 10 vs q m (λv Y=>v=.tup [.agg ((aT.C r.1)),.agg ((bG.C r.2.1)),.lb r.2.2]/\Y=m)
theorem Fw (n:Nat):Aw (nE n):=by
 rintro a0 a1 r h q m vs ⟨hv,hgh,hg1,hg3,hg4,hg6⟩;refine SC.wv hv (tL func10 call10 ntmps10 results10 ?_);unfold nE at h;refine aL (aQ λK hK=>?_);have K1:=qJ4 hg1 hg3 hg4 hg6;simp only [go_sem,seval,hgh,K1];apply hK;simp only [aC,aA];refine aL (aL (aQ λK hK=>?_));simp only [go_sem,seval,hgh,K1];apply hK;simp only [aC,aA];refine fD h (λc3 h=>?_) (λc3 h=>?_)
 ·refine aL (aQ λK hK=>?_);simp only [go_sem,seval,c3,hgh,K1];apply hK;simp only [aC,aA];refine Ar (id:=(0::q)) (off:=4) (cs:=[.ls [],.lb false,.li (0:Int),.li (0:Int),.nilv,.nilv]) (by simp only [go_sem,seval,c3,hgh,K1]) rfl ?_;refine Ar (id:=(0::q)) (off:=5) (cs:=[.ls [],.lb false,.li (0:Int),.li (0:Int),.list .none [],.nilv]) (by simp only [go_sem,seval,c3,hgh,K1]) rfl ?_;refine cV ?_
  try simp only [aU,aR]
  cases h;exact jS
 ·refine cO ?_
  try simp only [aC,aA]
  refine aL ?_;obtain ⟨x4,h6,h⟩:=aI h;refine aQ λK hK=>?_;simp only [go_sem,seval,c3,hgh,K1];refine SC.bA (KT n a0 _ h6 _ _ _) ?_;simp only [go_sem,seval,c3,hgh,K1];apply hK;simp only [aC,aA];refine aL (aL (aQ λK hK=>?_));simp only [go_sem,seval,c3,hgh,K1];apply hK;simp only [aC,aA];refine fD h (λc7 h=>?_) (λc7 h=>?_)
  ·refine aL (aQ λK hK=>?_);simp only [go_sem,seval,c3,c7,hgh,K1];apply hK;simp only [aC,aA];refine Ar (id:=(0::q)) (off:=4) (cs:=[.ls [],.lb false,.li (0:Int),.li (0:Int),.nilv,.nilv]) (by simp only [go_sem,seval,c3,c7,hgh,K1]) rfl ?_;refine Ar (id:=(0::q)) (off:=5) (cs:=[.ls [],.lb false,.li (0:Int),.li (0:Int),.list .none [],.nilv]) (by simp only [go_sem,seval,c3,c7,hgh,K1]) rfl ?_;refine cV ?_
   try simp only [aU,aR]
   cases h;exact jS
  ·refine cO ?_
   try simp only [aC,aA]
   refine aL ?_;obtain ⟨x8,h10,h⟩:=aI h;refine aQ λK hK=>?_;simp only [go_sem,seval,c3,c7,hgh,K1];refine SC.bA (MR n x4.1 a1 _ h10 _ _ _) ?_;simp only [go_sem,seval,c3,c7,hgh,K1];apply hK;simp only [aC,aA];refine aL (GU [(0,0),(4,0),(1,1),(5,0),(2,0),(3,0),(6,0)] 34 ?_);simp only [aC,aA];refine cV ?_
   try simp only [aU,aR]
   cases h;exact jS
instance:nB 10 (∀n,Aw (nE n)):=⟨Fw⟩
def Ap (f:(List aB)->Option Int):Prop:=∀a0 r,f a0=some r->Bi prog 33 [.list .none (a0.map aB.C)] (.li r)
theorem IG {kF} (IA:Ap kF) (n:Nat):Ap (wH kF n):=haveI:nB 33 (Ap kF):=⟨IA⟩;λa0 r h q m vs hv=>SC.wva hv (cZ func33 call33 ntmps33 results33 rfl (wk (.l [.v 3 Int λy=>.li y,.v 8 Int λy=>.li y] [6,7] [] [] none (.c (.j 1 1 21 [.v 3 Int λy=>.li y] [6,7,8] [] [] none .z .z) .z) .z) q m (wH.eq_1 _ _ _) h))
theorem Gh:∀n,Ap (xK n)
 | 0=>λ_ _ h=>dF h
 | n+1=>IG (Gh n) n
def zD (f:(List Int)->Int->Option (List Int)):Prop:=∀a0 a1 r,f a0 a1=some r->Bi prog 34 [.list .none (a0.map (cI .u32)),.li a1] (.list .exact (r.map (cI .u32)))
theorem sL:zD tN:=λa0 a1 r h q m vs hv=>RS h q m vs hv
def LK (f:Int->Option aK):Prop:=∀a0 r,f a0=some r->Bi prog 35 [.li a0] (.agg ((aK.C r)))
theorem Kg:LK (EF):=λa0 r h q m vs hv=>SC.wva hv (cZ func35 call35 ntmps35 results35 rfl (wk .z q m (EF.eq_1 _) h))
instance:nB 35 (LK EF):=⟨Kg⟩
def yA (f:aK->Option Int):Prop:=∀a0 r,f a0=some r->Bi prog 21 [.agg ((aK.C a0))] (.li r)
theorem Jn {pV} (Jt:yA pV) (n:Nat):yA (xZ pV n):=haveI:nB 21 (yA pV):=⟨Jt⟩;λa0 r h q m vs hv=>SC.wva hv (cZ func21 call21 ntmps21 results21 rfl (wk (.l [.v 3 Int λy=>.li y,.v 9 Int λy=>.li y] [7,8] [] [] none .z .z) q m (xZ.eq_1 _ _ _) h))
theorem GP:∀n,yA (tT n)
 | 0=>λ_ _ h=>dF h
 | n+1=>Jn (GP n) n
instance:nB 21 (∀n,yA (tT n)):=⟨GP⟩
def oQ (f:bQ->aF->Option Int):Prop:=∀a0 a1 r,f a0 a1=some r->∀(q:Pa) (m:M) (vs:List V) (T0:V),vs.map V.weak1=[.agg ([T0,.list .none (a0.gM.map (cI .i64)),.list .none (a0.sZ.map (cI .u32)),.list .none (a0.nD.map (cI .u32))]),.agg ((aF.C a1))]/\Rd m.hp T0 aK.C 3 a0.bN->SC prog 39 vs q m (λv Y=>v=.li r/\Y=m)
theorem CU {gG} (CT:oQ gG) (n:Nat):oQ (eS gG n):=haveI:nB 39 (oQ gG):=⟨CT⟩;λa0 a1 r h q m vs T0 ⟨hv,hrd⟩=>SC.wva hv (by rcases Rd.cases hrd with ⟨rfl,_⟩ | ⟨_,rfl,_⟩ <;> exact cZ func39 call39 ntmps39 results39 rfl (wk (.c .z (.l [.v 5 Int λy=>.li y,.v 21 Int λy=>.li y] [2,19,20] [2] [] none .z .z)) q m (eS.eq_1 _ _ _ _) h))
theorem xL:∀n,oQ (iK n)
 | 0=>λ_ _ _ h=>dF h
 | n+1=>CU (xL n) n
instance:nB 39 (∀n,oQ (iK n)):=⟨xL⟩
def IT (f:aK->(List Int)->Option Int):Prop:=∀a0 a1 r,f a0 a1=some r->Bi prog 42 [.agg ((aK.C a0)),.list .none (a1.map (cI .u32))] (.lw r)
theorem Mt:IT (xA):=λa0 a1 r h q m vs hv=>SC.wva hv (cZ func42 call42 ntmps42 results42 rfl (wk .z q m (xA.eq_1 _ _) h))
instance:nB 42 (IT xA):=⟨Mt⟩
def Hy (f:Bool->Option Int):Prop:=∀a0 r,f a0=some r->Bi prog 43 [.lb a0] (.lw r)
theorem Lk:Hy (vA):=λa0 r h q m vs hv=>SC.wva hv (cZ func43 call43 ntmps43 results43 rfl (wk .z q m (vA.eq_1 _) h))
instance:nB 43 (Hy vA):=⟨Lk⟩
def Kc (f:Int->Int->Option Int):Prop:=∀a0 a1 r,f a0 a1=some r->Bi prog 44 [.li a0,.lw a1] (.lw r)
theorem NE:Kc (As):=λa0 a1 r h q m vs hv=>SC.wva hv (cZ func44 call44 ntmps44 results44 rfl (wk .z q m (As.eq_1 _ _) h))
instance:nB 44 (Kc As):=⟨NE⟩
def wE (f:Int->Int->Option Int):Prop:=∀a0 a1 r,f a0 a1=some r->Bi prog 102 [.lw a0,.li a1] (.lw r)
theorem CJ:wE (lX):=λa0 a1 r h q m vs hv=>SC.wva hv (cZ func102 call102 ntmps102 results102 rfl (wk .z q m (lX.eq_1 _ _) h))
instance:nB 102 (wE lX):=⟨CJ⟩
def HA (f:Int->Int->Int->Option Int):Prop:=∀a0 a1 a2 r,f a0 a1 a2=some r->Bi prog 73 [.li a0,.lw a1,.lw a2] (.lw r)
theorem Ln:HA (tS):=λa0 a1 a2 r h q m vs hv=>SC.wva hv (cZ func73 call73 ntmps73 results73 rfl (wk .z q m (tS.eq_1 _ _ _) h))
instance:nB 73 (HA tS):=⟨Ln⟩
def JZ (f:Int->Int->Int->Option (Int × Bool)):Prop:=∀a0 a1 a2 r,f a0 a1 a2=some r->Bi prog 45 [.li a0,.lw a1,.lw a2] (.tup [.lw r.1,.lb r.2])
theorem NC:JZ (kD):=λa0 a1 a2 r h q m vs hv=>SC.wva hv (cZ func45 call45 ntmps45 results45 rfl (wk .z q m (kD.eq_1 _ _ _) h))
instance:nB 45 (JZ kD):=⟨NC⟩
def Au (f:aK->(List Int)->Option (Int × Bool)):Prop:=∀a0 a1 r,f a0 a1=some r->Bi prog 16 [.agg ((aK.C a0)),.list .none (a1.map (cI .u32))] (.tup [.lw r.1,.lb r.2])
theorem Kf {uL} (KI:Au uL) (n:Nat):Au (lE uL n):=haveI:nB 16 (Au uL):=⟨KI⟩;λa0 a1 r h q m vs hv=>SC.wva hv (cZ func16 call16 ntmps16 results16 rfl (wk (.c .z (.j 2 4 26 [.v 32 Bool λy=>.lb y] [1,2,6,7] [2] [] none .z .z)) q m (lE.eq_1 _ _ _ _) h))
theorem HE:∀n,Au (lR n)
 | 0=>λ_ _ _ h=>dF h
 | n+1=>Kf (HE n) n
instance:nB 16 (∀n,Au (lR n)):=⟨HE⟩
def LJ (f:Int->Option aK):Prop:=∀a0 r,f a0=some r->Bi prog 71 [.lw a0] (.agg ((aK.C r)))
theorem Pq:LJ (Gu):=λa0 r h q m vs hv=>SC.wva hv (cZ func71 call71 ntmps71 results71 rfl (wk .z q m (Gu.eq_1 _) h))
instance:nB 71 (LJ Gu):=⟨Pq⟩
def At (f:aK->Option aK):Prop:=∀a0 r,f a0=some r->Bi prog 40 [.agg ((aK.C a0))] (.agg ((aK.C r)))
theorem Ke {rJ} (KH:At rJ) (n:Nat):At (nH rJ n):=haveI:nB 40 (At rJ):=⟨KH⟩;λa0 r h q m vs hv=>SC.wva hv (cZ func40 call40 ntmps40 results40 rfl (wk (.l [.v 4 Bool λy=>.lb y,.v 21 Int λy=>.li y,.b 3 aK λy=>[.li y.gA,.lw y.N_,.list .self (y.aO.map aK.C)]] [2,3,19,20] [2] [] none (.c (.j 2 8 23 [.v 4 Bool λy=>.lb y] [2,3,19,20,21] [2,3] [] none .z .z) .z) .z) q m (nH.eq_1 _ _ _) h))
theorem HD:∀n,At (pK n)
 | 0=>λ_ _ h=>dF h
 | n+1=>Ke (HD n) n
instance:nB 40 (∀n,At (pK n)):=⟨HD⟩
def Je (f:cF->Option Int):Prop:=∀a0 r,f a0=some r->∀(q:Pa) (m:M) (vs:List V),vs.map V.weak1=[.ls a0]/\m.gl 0=.eptr [(cA bY.C eB)] 0 0->SC prog 72 vs q m (λv Y=>v=.li r/\Y=m)
theorem MN (n:Nat):Je (By n):=λa0 r h q m vs ⟨hv,_⟩=>SC.wva hv (cZ func72 call72 ntmps72 results72 rfl (wk (.l [.v 6 Int λy=>.li y] [0,5] [] [] none .z .z) q m (By.eq_1 _ _) h))
instance:nB 72 (∀n,Je (By n)):=⟨MN⟩
def pJ (f:bQ->aF->Option aK):Prop:=∀a0 a1 r,f a0 a1=some r->∀(q:Pa) (m:M) (vs:List V) (T0:V),vs.map V.weak1=[.agg ([T0,.list .none (a0.gM.map (cI .i64)),.list .none (a0.sZ.map (cI .u32)),.list .none (a0.nD.map (cI .u32))]),.agg ((aF.C a1))]/\m.gl 0=.eptr [(cA bY.C eB)] 0 0/\Rd m.hp T0 aK.C 3 a0.bN->SC prog 41 vs q m (λv Y=>v=.agg ((aK.C r))/\Y=m)
theorem DP {gV} (DO:pJ gV) (n:Nat):pJ (fC gV n):=haveI:nB 41 (pJ gV):=⟨DO⟩;λa0 a1 r h q m vs T0 ⟨hv,_,hrd⟩=>SC.wva hv (by rcases Rd.cases hrd with ⟨rfl,_⟩ | ⟨_,rfl,_⟩ <;> exact cZ func41 call41 ntmps41 results41 rfl (wk (.c .z (.c .z (.l [.v 30 Int λy=>.li y,.b 5 aK λy=>[.li y.gA,.lw y.N_,.list .self (y.aO.map aK.C)]] [2,4,5,28,29] [2,4] [] none .z .z))) q m (fC.eq_1 _ _ _ _) h))
theorem yX:∀n,pJ (iU n)
 | 0=>λ_ _ _ h=>dF h
 | n+1=>DP (yX n) n
instance:nB 41 (∀n,pJ (iU n)):=⟨yX⟩
def Ch (f:bQ->aF->Option (aK × Int)):Prop:=∀a0 a1 r,f a0 a1=some r->∀(q:Pa) (m:M) (vs:List V) (T0:V),vs.map V.weak1=[.agg ([T0,.list .none (a0.gM.map (cI .i64)),.list .none (a0.sZ.map (cI .u32)),.list .none (a0.nD.map (cI .u32))]),.agg ((aF.C a1))]/\m.gl 0=.eptr [(cA bY.C eB)] 0 0/\Rd m.hp T0 aK.C 3 a0.bN->SC prog 15 vs q m (λv Y=>v=.tup [.agg ((aK.C r.1)),.li r.2]/\Y=m)
theorem GL (n:Nat):Ch (pL n):=λa0 a1 r h q m vs T0 ⟨hv,_,hrd⟩=>SC.wva hv (by rcases Rd.cases hrd with ⟨rfl,_⟩ | ⟨_,rfl,_⟩ <;> exact cZ func15 call15 ntmps15 results15 rfl (wk .z q m (pL.eq_1 _ _ _) h))
instance:nB 15 (∀n,Ch (pL n)):=⟨GL⟩
def yG (f:aS->aF->Option (aK × aS)):Prop:=∀a0 a1 r,f a0 a1=some r->∀(q:Pa) (m:M) (vs:List V) (P0:Pa) (W:Pa),vs.map V.weak1=[.ptr P0 0,.agg ((aF.C a1))]/\m.blk P0=some ([.vec W 3 a0.c_.bN.length,.list .self (a0.c_.gM.map (cI .i64)),.list .self (a0.c_.sZ.map (cI .u32)),.list .self (a0.c_.nD.map (cI .u32)),.li a0.e_])/\m.gl 0=.eptr [(cA bY.C eB)] 0 0/\m.hp W=some (a0.c_.bN.map aK.C).flatten->SC prog 65 vs q m (λv Y=>∃vr,v=.agg ((aK.C r.1))/\Y=m.ck P0 ([.vec W 3 r.2.c_.bN.length,.list .self (r.2.c_.gM.map (cI .i64)),.list .self (r.2.c_.sZ.map (cI .u32)),.list .self (r.2.c_.nD.map (cI .u32)),.li r.2.e_]) (pC m.hp W (r.2.c_.bN.map aK.C).flatten) vr)
theorem Ec (n:Nat):yG (lJ n):=λa0 a1 r h q m vs P0 W ⟨hv,w0,_,hkW⟩=>SC.wva hv (SC.ac w0 λ_ _ _=>have hW0:=Gz hkW;cZ func65 call65 ntmps65 results65 rfl (wk .z q m (lJ.eq_1 _ _ _) h))
instance:nB 65 (∀n,yG (lJ n)):=⟨Ec⟩
def oJ (f:aS->aF->Option aS):Prop:=∀a0 a1 r,f a0 a1=some r->∀(q:Pa) (m:M) (vs:List V) (P0:Pa) (W:Pa),vs.map V.weak1=[.ptr P0 0,.agg ((aF.C a1))]/\m.blk P0=some ([.vec W 3 a0.c_.bN.length,.list .self (a0.c_.gM.map (cI .i64)),.list .self (a0.c_.sZ.map (cI .u32)),.list .self (a0.c_.nD.map (cI .u32)),.li a0.e_])/\m.gl 0=.eptr [(cA bY.C eB)] 0 0/\m.hp W=some (a0.c_.bN.map aK.C).flatten->SC prog 64 vs q m (λv Y=>∃vr,v=.tup []/\Y=m.ck P0 ([.vec W 3 r.c_.bN.length,.list .self (r.c_.gM.map (cI .i64)),.list .self (r.c_.sZ.map (cI .u32)),.list .self (r.c_.nD.map (cI .u32)),.li r.e_]) (pC m.hp W (r.c_.bN.map aK.C).flatten) vr)
theorem Cy {gF} (CN:oJ gF) (n:Nat):oJ (oI gF n):=haveI:nB 64 (oJ gF):=⟨CN⟩;λa0 a1 r h q m vs P0 W ⟨hv,w0,_,hkW⟩=>SC.wva hv (SC.ac w0 λ_ _ _=>have hW0:=Gz hkW;cZ func64 call64 ntmps64 results64 rfl (wk (.l [.v 11 Int λy=>.li y,.w 0 aS (λy=>[.vec W 3 y.c_.bN.length,.list .self (y.c_.gM.map (cI .i64)),.list .self (y.c_.sZ.map (cI .u32)),.list .self (y.c_.nD.map (cI .u32)),.li y.e_]) λy h=>pC h W (y.c_.bN.map aK.C).flatten] [0,3,9,10] [3] [] (some P0) .z (.j 2 6 19 [.v 31 Bool λy=>.lb y] [0,3] [0,3] [] (some P0) .z (.c (.l [.v 35 Int λy=>.li y,.w 0 aS (λy=>[.vec W 3 y.c_.bN.length,.list .self (y.c_.gM.map (cI .i64)),.list .self (y.c_.sZ.map (cI .u32)),.list .self (y.c_.nD.map (cI .u32)),.li y.e_]) λy h=>pC h W (y.c_.bN.map aK.C).flatten] [0,33,34] [] [] (some P0) .z .z) .z))) q m (oI.eq_1 _ _ _ _) h))
theorem xE:∀n,oJ (lL n)
 | 0=>λ_ _ _ h=>dF h
 | n+1=>Cy (xE n) n
instance:nB 64 (∀n,oJ (lL n)):=⟨xE⟩
def LI (f:(List Int)->Int->Int->Option Int):Prop:=∀a0 a1 a2 r,f a0 a1 a2=some r->Bi prog 138 [.list .none (a0.map (cI .u32)),.lw a1,.lw a2] (.lw r)
theorem Pp:LI (EE):=λa0 a1 a2 r h q m vs hv=>SC.wva hv (cZ func138 call138 ntmps138 results138 rfl (wk .z q m (EE.eq_1 _ _ _) h))
instance:nB 138 (LI EE):=⟨Pp⟩
def Db (f:Int->Int->Int->Option (Int × Int)):Prop:=∀a0 a1 a2 r,f a0 a1 a2=some r->Bi prog 194 [.lw a0,.lw a1,.lw a2] (.tup [.lw r.1,.lw r.2])
theorem Hg:Db (qP):=λa0 a1 a2 r h q m vs hv=>SC.wva hv (cZ func194 call194 ntmps194 results194 rfl (wk .z q m (qP.eq_1 _ _ _) h))
instance:nB 194 (Db qP):=⟨Hg⟩
def Ka (f:bW->bW->Option bW):Prop:=∀a0 a1 r,f a0 a1=some r->∀(q:Pa) (m:M) (vs:List V),vs.map V.weak1=[.agg ((bW.C a0)),.agg ((bW.C a1))]/\m.gl 2=.eptr [[.lw 0,.lw 4294967295]] 0 0->SC prog 170 vs q m (λv Y=>v=.agg ((bW.C r))/\Y=m)
theorem ND:Ka (FK):=λa0 a1 r h q m vs ⟨hv,_⟩=>SC.wva hv (cZ func170 call170 ntmps170 results170 rfl (wk .z q m (FK.eq_1 _ _) h))
instance:nB 170 (Ka FK):=⟨ND⟩
def Da (f:Int->Int->Option (Int × Int)):Prop:=∀a0 a1 r,f a0 a1=some r->Bi prog 97 [.lw a0,.lw a1] (.tup [.lw r.1,.lw r.2])
theorem Hf:Da (sI):=λa0 a1 r h q m vs hv=>SC.wva hv (cZ func97 call97 ntmps97 results97 rfl (wk .z q m (sI.eq_1 _ _) h))
instance:nB 97 (Da sI):=⟨Hf⟩
def FL (f:bW->bW->Option bW):Prop:=∀a0 a1 r,f a0 a1=some r->∀(q:Pa) (m:M) (vs:List V),vs.map V.weak1=[.agg ((bW.C a0)),.agg ((bW.C a1))]/\m.gl 2=.eptr [[.lw 0,.lw 4294967295]] 0 0->SC prog 171 vs q m (λv Y=>v=.agg ((bW.C r))/\Y=m)
theorem Jm:FL (xY):=λa0 a1 r h q m vs ⟨hv,_⟩=>SC.wva hv (cZ func171 call171 ntmps171 results171 rfl (wk .z q m (xY.eq_1 _ _) h))
instance:nB 171 (FL xY):=⟨Jm⟩
def GN (f:Int->bW->bW->Option bW):Prop:=∀a0 a1 a2 r,f a0 a1 a2=some r->∀(q:Pa) (m:M) (vs:List V),vs.map V.weak1=[.li a0,.agg ((bW.C a1)),.agg ((bW.C a2))]/\m.gl 2=.eptr [[.lw 0,.lw 4294967295]] 0 0->SC prog 139 vs q m (λv Y=>v=.agg ((bW.C r))/\Y=m)
theorem JX:GN (wZ):=λa0 a1 a2 r h q m vs ⟨hv,_⟩=>SC.wva hv (cZ func139 call139 ntmps139 results139 rfl (wk .z q m (wZ.eq_1 _ _ _) h))
instance:nB 139 (GN wZ):=⟨JX⟩
def xX (f:aK->(List Int)->(List Int)->Option bW):Prop:=∀a0 a1 a2 r,f a0 a1 a2=some r->∀(q:Pa) (m:M) (vs:List V),vs.map V.weak1=[.agg ((aK.C a0)),.list .none (a1.map (cI .u32)),.list .none (a2.map (cI .u32))]/\m.gl 2=.eptr [[.lw 0,.lw 4294967295]] 0 0->SC prog 103 vs q m (λv Y=>v=.agg ((bW.C r))/\Y=m)
theorem Jl {tC} (Js:xX tC) (n:Nat):xX (nW tC n):=haveI:nB 103 (xX tC):=⟨Js⟩;λa0 a1 a2 r h q m vs ⟨hv,_⟩=>SC.wva hv (cZ func103 call103 ntmps103 results103 rfl (wk .z q m (nW.eq_1 _ _ _ _ _) h))
theorem GO:∀n,xX (tR n)
 | 0=>λ_ _ _ _ h=>dF h
 | n+1=>Jl (GO n) n
instance:nB 103 (∀n,xX (tR n)):=⟨GO⟩
def HB (f:aK->(List Int)->(List Int)->Option (Int × Int)):Prop:=∀a0 a1 a2 r,f a0 a1 a2=some r->∀(q:Pa) (m:M) (vs:List V),vs.map V.weak1=[.agg ((aK.C a0)),.list .none (a1.map (cI .u32)),.list .none (a2.map (cI .u32))]/\m.gl 2=.eptr [[.lw 0,.lw 4294967295]] 0 0->SC prog 74 vs q m (λv Y=>v=.tup [.lw r.1,.lw r.2]/\Y=m)
theorem Lo (n:Nat):HB (BG n):=λa0 a1 a2 r h q m vs ⟨hv,_⟩=>SC.wva hv (cZ func74 call74 ntmps74 results74 rfl (wk .z q m (BG.eq_1 _ _ _ _) h))
instance:nB 74 (∀n,HB (BG n)):=⟨Lo⟩
def AK (f:bQ->aF->Option (Int × Int)):Prop:=∀a0 a1 r,f a0 a1=some r->∀(q:Pa) (m:M) (vs:List V) (T0:V),vs.map V.weak1=[.agg ([T0,.list .none (a0.gM.map (cI .i64)),.list .none (a0.sZ.map (cI .u32)),.list .none (a0.nD.map (cI .u32))]),.agg ((aF.C a1))]/\m.gl 0=.eptr [(cA bY.C eB)] 0 0/\m.gl 2=.eptr [[.lw 0,.lw 4294967295]] 0 0/\Rd m.hp T0 aK.C 3 a0.bN->SC prog 46 vs q m (λv Y=>v=.tup [.lw r.1,.lw r.2]/\Y=m)
theorem FE (n:Nat):AK (gS n):=λa0 a1 r h q m vs T0 ⟨hv,_,_,hrd⟩=>SC.wva hv (by rcases Rd.cases hrd with ⟨rfl,_⟩ | ⟨_,rfl,_⟩ <;> exact cZ func46 call46 ntmps46 results46 rfl (wk .z q m (gS.eq_1 _ _ _) h))
instance:nB 46 (∀n,AK (gS n)):=⟨FE⟩
def yH (f:aS->aB->Option aS):Prop:=∀a0 a1 r,f a0 a1=some r->∀(q:Pa) (m:M) (vs:List V) (P0:Pa) (W:Pa),vs.map V.weak1=[.ptr P0 0,.agg ((aB.C a1))]/\m.blk P0=some ([.vec W 3 a0.c_.bN.length,.list .self (a0.c_.gM.map (cI .i64)),.list .self (a0.c_.sZ.map (cI .u32)),.list .self (a0.c_.nD.map (cI .u32)),.li a0.e_])/\m.gl 0=.eptr [(cA bY.C eB)] 0 0/\m.gl 2=.eptr [[.lw 0,.lw 4294967295]] 0 0/\m.hp W=some (a0.c_.bN.map aK.C).flatten->SC prog 66 vs q m (λv Y=>∃vr,v=.tup []/\Y=m.ck P0 ([.vec W 3 r.c_.bN.length,.list .self (r.c_.gM.map (cI .i64)),.list .self (r.c_.sZ.map (cI .u32)),.list .self (r.c_.nD.map (cI .u32)),.li r.e_]) (pC m.hp W (r.c_.bN.map aK.C).flatten) vr)
theorem Ed (n:Nat):yH (lK n):=λa0 a1 r h q m vs P0 W ⟨hv,w0,_,_,hkW⟩=>SC.wva hv (SC.ac w0 λ_ _ _=>have hW0:=Gz hkW;cZ func66 call66 ntmps66 results66 rfl (wk .z q m (lK.eq_1 _ _ _) h))
instance:nB 66 (∀n,yH (lK n)):=⟨Ed⟩
def qK (f:aS->(List aB)->Option aS):Prop:=∀a0 a1 r,f a0 a1=some r->∀(q:Pa) (m:M) (vs:List V) (P0:Pa) (W:Pa),vs.map V.weak1=[.ptr P0 0,.list .none (a1.map aB.C)]/\m.blk P0=some ([.vec W 3 a0.c_.bN.length,.list .self (a0.c_.gM.map (cI .i64)),.list .self (a0.c_.sZ.map (cI .u32)),.list .self (a0.c_.nD.map (cI .u32)),.li a0.e_])/\m.gl 0=.eptr [(cA bY.C eB)] 0 0/\m.gl 2=.eptr [[.lw 0,.lw 4294967295]] 0 0/\m.hp W=some (a0.c_.bN.map aK.C).flatten->SC prog 36 vs q m (λv Y=>∃vr,v=.tup []/\Y=m.ck P0 ([.vec W 3 r.c_.bN.length,.list .self (r.c_.gM.map (cI .i64)),.list .self (r.c_.sZ.map (cI .u32)),.list .self (r.c_.nD.map (cI .u32)),.li r.e_]) (pC m.hp W (r.c_.bN.map aK.C).flatten) vr)
theorem BQ {dR} (Ce:qK dR) (n:Nat):qK (nO dR n):=haveI:nB 36 (qK dR):=⟨Ce⟩;λa0 a1 r h q m vs P0 W ⟨hv,w0,_,_,hkW⟩=>SC.wva hv (SC.ac w0 λ_ _ _=>have hW0:=Gz hkW;cZ func36 call36 ntmps36 results36 rfl (wk (.l [.v 11 Int λy=>.li y,.w 0 aS (λy=>[.vec W 3 y.c_.bN.length,.list .self (y.c_.gM.map (cI .i64)),.list .self (y.c_.sZ.map (cI .u32)),.list .self (y.c_.nD.map (cI .u32)),.li y.e_]) λy h=>pC h W (y.c_.bN.map aK.C).flatten] [0,9,10] [] [] (some P0) (.c (.j 11 1 36 [.w 0 aS (λy=>[.vec W 3 y.c_.bN.length,.list .self (y.c_.gM.map (cI .i64)),.list .self (y.c_.sZ.map (cI .u32)),.list .self (y.c_.nD.map (cI .u32)),.li y.e_]) λy h=>pC h W (y.c_.bN.map aK.C).flatten] [0,9,10,11] [] [] (some P0) (.l [.v 18 Int λy=>.li y,.w 0 aS (λy=>[.vec W 3 y.c_.bN.length,.list .self (y.c_.gM.map (cI .i64)),.list .self (y.c_.sZ.map (cI .u32)),.list .self (y.c_.nD.map (cI .u32)),.li y.e_]) λy h=>pC h W (y.c_.bN.map aK.C).flatten] [0,5,9,10,11,16,17] [5] [] (some P0) (.c (.j 1 3 50 [.w 0 aS (λy=>[.vec W 3 y.c_.bN.length,.list .self (y.c_.gM.map (cI .i64)),.list .self (y.c_.sZ.map (cI .u32)),.list .self (y.c_.nD.map (cI .u32)),.li y.e_]) λy h=>pC h W (y.c_.bN.map aK.C).flatten] [0,5,9,10,11,16,17,18] [5] [] (some P0) (.j 2 7 32 [.v 47 Bool λy=>.lb y] [0,5,7,9,10,11,16,17,18] [0,5,7] [] (some P0) .z .z) .z) .z) (.j 2 12 20 [.v 73 Bool λy=>.lb y] [0,5,9,10,11] [0,5] [] (some P0) .z .z)) .z) .z) .z) q m (nO.eq_1 _ _ _ _) h))
theorem wA:∀n,qK (fY n)
 | 0=>λ_ _ _ h=>dF h
 | n+1=>BQ (wA n) n
def Gi (f:aT->Option (bQ × Int)):Prop:=∀a0 r,f a0=some r->∀(q:Pa) (m:M) (vs:List V),vs.map V.weak1=[.agg ((aT.C a0))]/\m.gl 0=.eptr [(cA bY.C eB)] 0 0/\m.gl 2=.eptr [[.lw 0,.lw 4294967295]] 0 0->SC prog 11 vs q m (λv Y=>v=.tup [.agg ((bQ.C r.1)),.li r.2]/\Y=m)
theorem Jw (n:Nat):Gi (tZ n):=by
 rintro a0 r h q m vs ⟨hv,hg0,hg2⟩;refine SC.wv hv ?_;refine SC.freshH λhfq=>?_;refine SC.hpq ?_;refine tL func11 call11 ntmps11 results11 ?_;unfold tZ at h;refine aL (aQ λK hK=>?_);have K1:=qJ2 hg0 hg2;simp only [go_sem,seval,aN,rR,CX,dN,aX,aP,aV,dV,gL hfq,eZ hfq,K1]
 first | apply hK | (refine ⟨by omega,?_⟩;apply hK)
 simp only [aC,aA];refine aL (aL ?_);obtain ⟨y3,j3,h⟩:=aI h;refine zB 12 (λX Y=>X 1=.ptr (0::q) 0/\X 2=.ptr (1::q) 0/\X 15=.lb y3/\Y.blk (0::q)=some ((aT.C a0))/\Y.blk (1::q)=some ([.list .self ([].map aK.C),.list .self ([].map (cI .i64)),.list .self ([].map (cI .u32)),.list .self ([].map (cI .u32))])/\Y.gl=m.gl/\Y.hp=m.hp/\m.back q Y=m) ?_ ?_
 ·rcases yO j3 with ⟨c4,j3⟩ | ⟨c4,j3⟩
  ·refine aQ λK hK=>?_;simp only [go_sem,seval,aN,rR,CX,dN,aX,aP,aV,dV,gL hfq,eZ hfq,c4,K1]
   first | apply hK | (refine ⟨by omega,?_⟩;apply hK)
   simp only [aC,aA];obtain rfl:=bU j3;refine ⟨by decide,?_⟩;simp only [go_sem,seval,aX,aV,aP,aZ,aN,rR,CX,dN,dV,gL hfq,eZ hfq,c4,K1]
  ·obtain ⟨x5,h6,j3⟩:=aI j3;refine aQ λK hK=>?_;simp only [go_sem,seval,aN,rR,CX,dN,aX,aP,aV,dV,gL hfq,eZ hfq,c4,K1];refine SC.by_ (Gh n a0.bO _ h6 _ _ _ (by simp only [go_sem,seval,aN,rR,CX,dN,aX,aP,aV,dV,gL hfq,eZ hfq,c4,K1])) ?_;simp only [go_sem,seval,aN,rR,CX,dN,aX,aP,aV,dV,gL hfq,eZ hfq,c4,K1]
   first | apply hK | (refine ⟨by omega,?_⟩;apply hK)
   simp only [aC,aA];obtain rfl:=bU j3;refine ⟨by decide,?_⟩;simp only [go_sem,seval,aX,aV,aP,aZ,aN,rR,CX,dN,dV,gL hfq,eZ hfq,c4,K1]
 ·intro E7 m8 e9 _;simp only [aC,aA];refine fD h (λc10 h=>?_) (λc10 h=>?_)
  ·refine aL (aQ λK hK=>?_);simp only [go_sem,seval,aN,rR,CX,dN,aX,aP,aV,dV,gL hfq,eZ hfq,c10,e9,K1]
   first | apply hK | (refine ⟨by omega,?_⟩;apply hK)
   simp only [aC,aA];refine cV ?_
   try simp only [aU,aR]
   cases h;refine ⟨by simp,?_⟩;simp only [go_sem,seval,aX,aV,aP,aZ,aN,rR,CX,dN,dV,gL hfq,eZ hfq,c10,e9,K1]
  ·refine cO ?_
   try simp only [aC,aA]
   refine aL ?_;obtain ⟨x11,h14,h⟩:=aI h;obtain ⟨⟨f15,f16⟩,h⟩:=cH h;refine xO λf17=>?_;have f12:m.hp (15::q)=none:=by have:=f17 15 (by omega);simpa only [go_sem,↓reduceIte,Nat.reduceEqDiff,Nat.reduceAdd,Nat.reduceMul,Nat.reduceLT,Nat.reduceLeDiff,reduceCtorEq,Int.reduceLE,Int.reduceLT,Int.reduceToNat,UInt8.reduceToNat,gL hfq,eZ hfq,c10,f15,f16,e9,K1] using this
   refine SW_px2 [0,1,3,7,0,0,32,127,255,511,1023] [0,1,2,4,5] 3 6 [7,8,9,10] rfl (by kernel_rfl) λK hK=>?_;have g18_3:List.filter (λj=>!sY [0,1,3,7,0,0,32,127,255,511,1023] j 3) [0,1,2,4,5].reverse=[5,4]:=by decide
   have g19_6:List.filter (λj=>!sY [0,1,3,7,0,0,32,127,255,511,1023] j 6) [5,4]=[4]:=by decide
   have g20_9:List.filter (λj=>!sY [0,1,3,7,0,0,32,127,255,511,1023] j 9) [8,7,4]=[]:=by decide
   have g21_6:List.filter (λj=>!sY [0,1,3,7,0,0,32,127,255,511,1023] j 6) [0,1,2,4,5].reverse=[4,2,1,0]:=by decide
   have g22_3:List.filter (λj=>!sY [0,1,3,7,0,0,32,127,255,511,1023] j 3) [4,2,1,0]=[4]:=by decide
   have K2:=qJ6 K1 f12 c10 f15 f16 e9;simp only [go_sem,seval,Lb,Rk,Dj,g18_3,g19_6,g20_9,g21_6,g22_3,aN,rR,CX,dN,aX,aP,aV,dV,gL hfq,eZ hfq,K2];refine TL (T:=?Tw) ?kw (λkey=>SC.by_ (sL [(4294967295:Int)] (4:Int) _ h14 _ _ _ (by simp only [go_sem,seval,aN,rR,CX,dN,aX,aP,aV,dV,gL hfq,eZ hfq,K2])) ?aw) (λkey=>SC.by_ (sL [(4294967295:Int)] (4:Int) _ h14 _ _ _ (by simp only [go_sem,seval,aN,rR,CX,dN,aX,aP,aV,dV,gL hfq,eZ hfq,K2])) ?bw)
   case aw=>simp only [go_sem,seval,Lb,Rk,Dj,g18_3,g19_6,g20_9,g21_6,g22_3,aN,rR,CX,dN,aX,aP,aV,dV,gL hfq,eZ hfq,K2];exact key
   case bw=>simp only [go_sem,seval,Int.reduceToNat,UInt8.reduceToNat,Lb,Rk,Dj,g18_3,g19_6,g20_9,g21_6,g22_3,updC (show (23=20)=False by simp),aN,rR,CX,dN,aX,aP,aV,dV,gL hfq,eZ hfq,K2];exact key
   first | apply hK | (refine ⟨by omega,?_⟩;apply hK)
   simp only [aC,aA];refine SW_hnil (id:=(15::q)) (vs:=(List.replicate a0.aW.length [.li 0,.lw 0,.nilv]).flatten) (vs':=((List.replicate a0.aW.length aK.Z).map aK.C).flatten) (by simp only [go_sem,seval,aN,rR,CX,dN,aX,aP,aV,dV,gL hfq,eZ hfq,K2]) (zQ.mk (f:=aK.C) (z:=aK.Z) (by rw [show aK.C aK.Z=[.li 0,.lw 0,.list .none []] from by rw [aK.C_eq];rfl];exact ⟨.inl rfl,.inl rfl,.inr ⟨rfl,rfl⟩,trivial⟩) a0.aW.length) ?_;refine aL (aL ?_);obtain ⟨⟨f23,f24⟩,h⟩:=cH h;refine aQ λK hK=>?_;simp only [go_sem,seval,Lb,Rk,aN,rR,CX,dN,aX,aP,aV,dV,gL hfq,eZ hfq,f23,f24,K2]
   first | apply hK | (refine ⟨by omega,?_⟩;apply hK)
   simp only [aC,aA];refine dS ?_;obtain ⟨y28,j28,h⟩:=aI h;refine xP (λc X Y=>∃v26 v27,sJ a0 c v26 v27=some y28/\X 1=.ptr (0::q) 0/\X 2=.ptr (1::q) 0/\X 4=.ptr (21::q) 0/\X 31=.list .none ((a0.aW.take a0.bB.toNat).map aM.C)/\X 32=.li ((a0.aW.take a0.bB.toNat).length:Int)/\X 33=.li v26/\Y.blk (21::q)=some ([.vec (15::q) 3 v27.c_.bN.length,.list .self (v27.c_.gM.map (cI .i64)),.list .self (v27.c_.sZ.map (cI .u32)),.list .self (v27.c_.nD.map (cI .u32)),.li v27.e_])/\Y.blk (0::q)=some ((aT.C a0))/\Y.blk (1::q)=some ([.list .self ([].map aK.C),.list .self ([].map (cI .i64)),.list .self ([].map (cI .u32)),.list .self ([].map (cI .u32))])/\Y.gl=m.gl/\Y.hp=pC m.hp (15::q) (v27.c_.bN.map aK.C).flatten/\(m.back q Y).seth m.hp=m) n ⟨(0:Int),(aS.mk (bQ.mk (List.replicate a0.aW.length aK.Z) [] [(0:Int),(0:Int),(0:Int),(0:Int)] x11) (0:Int)),j28,?_⟩ ?_
   ·simp only [go_sem,seval,aX,aV,aP,aZ,aN,rR,CX,dN,dV,gL hfq,eZ hfq,f23,f24,K2]
   rintro i25 c29 E30 m31 ⟨v26,v27,j28,e32⟩ _
   rcases c29 with _ | c29
   ·cases j28
   rw [sJ] at j28;refine aL (aQ λK hK=>?_);have K3:=qJ8 K1 f12 c10 f15 f16 f23 f24 e32;simp only [go_sem,seval,Lb,Rk,aN,rR,CX,dN,aX,aP,aV,dV,gL hfq,eZ hfq,K3]
   first | apply hK | (refine ⟨by omega,?_⟩;apply hK)
   simp only [aC,aA];refine aL (fD j28 (λc33 j28=>?_) (λc33 j28=>?_))
   ·refine cO ?_
    try simp only [aC,aA]
    refine aL ?_;obtain ⟨y34,j34,j28⟩:=aI j28;refine zB 20 (λX Y=>X 1=.ptr (0::q) 0/\X 2=.ptr (1::q) 0/\X 4=.ptr (21::q) 0/\X 31=.list .none ((a0.aW.take a0.bB.toNat).map aM.C)/\X 32=.li ((a0.aW.take a0.bB.toNat).length:Int)/\X 33=.li v26/\Y.blk (21::q)=some ([.vec (15::q) 3 y34.c_.bN.length,.list .self (y34.c_.gM.map (cI .i64)),.list .self (y34.c_.sZ.map (cI .u32)),.list .self (y34.c_.nD.map (cI .u32)),.li y34.e_])/\Y.blk (0::q)=some ((aT.C a0))/\Y.blk (1::q)=some ([.list .self ([].map aK.C),.list .self ([].map (cI .i64)),.list .self ([].map (cI .u32)),.list .self ([].map (cI .u32))])/\Y.gl=m.gl/\Y.hp=pC m.hp (15::q) (y34.c_.bN.map aK.C).flatten/\(m.back q Y).seth m.hp=m) ?_ ?_
    ·refine dS (aL ?_);obtain ⟨x35,h40,j34⟩:=aI j34;obtain ⟨f37,f38,f39⟩:=bZ h40;refine aQ λK hK=>?_;have K4:=qJ5 K3 c33 f37 f38 f39;simp only [go_sem,seval,Lb,Rk,aN,rR,CX,dN,aX,aP,aV,dV,gL hfq,eZ hfq,K4]
     first | apply hK | (refine ⟨by omega,?_⟩;apply hK)
     simp only [aC,aA];refine aL (aQ λK hK=>?_);simp only [go_sem,seval,Lb,Rk,aN,rR,CX,dN,aX,aP,aV,dV,gL hfq,eZ hfq,K4]
     first | apply hK | (refine ⟨by omega,?_⟩;apply hK)
     simp only [aC,aA];refine fD j34 (λc41 j34=>?_) (λc41 j34=>?_)
     ·obtain ⟨x42,h44,j34⟩:=aI j34;obtain ⟨x43,h48,j34⟩:=aI j34;obtain ⟨f45,f46,f47⟩:=bZ h48;obtain ⟨w49,d50⟩:=Ox (f:=aK.C) (sz:=3) (λx=>by rw [aK.C_eq];rfl) f47;simp only [go_sem,seval] at d50;have f51:(3<=w49.length+1+1+1)=True:=eq_true (by omega);have d52:=Oy (f:=aK.C) (sz:=3) (λx=>by rw [aK.C_eq];rfl) (l:=v27.c_.bN) (i:=v26.toNat) (by have:=f45;have:=f46;omega) x42;simp only [go_sem,seval] at d52;have f53:=flat_le (f:=aK.C) (sz:=3) (l:=v27.c_.bN) (λx=>by rw [aK.C_eq];rfl) (i:=v26.toNat) (by have:=f45;have:=f46;omega);refine nA [(6,0),(7,0),(0,0),(1,0),(2,0),(3,0),(4,1),(5,0),(8,0),(9,0)] 20 λK hK=>?_;have K5:=qJ9 K4 c41 f45 f46 f47 d50 f51 d52 f53;simp only [go_sem,seval,Lb,Rk,aN,rR,CX,dN,aX,aP,aV,dV,gL hfq,eZ hfq,K5];refine hY (Kg v26 _ h44 _ _ _ (by simp only [go_sem,seval,aN,rR,CX,dN,aX,aP,aV,dV,gL hfq,eZ hfq,K5])) rfl ?_;simp only [go_sem,seval,aN,rR,CX,dN,aX,aP,aV,dV,gL hfq,eZ hfq,K5]
      first | apply hK | (refine ⟨by omega,?_⟩;apply hK)
      simp only [aC,aA];obtain rfl:=bU j34;refine ⟨by decide,?_⟩;simp only [go_sem,seval,aX,aV,aP,aZ,aN,rR,CX,dN,dV,gL hfq,eZ hfq,K5]
     ·refine cO ?_
      try simp only [aC,aA]
      obtain rfl:=bU j34;refine ⟨by decide,?_⟩;simp only [go_sem,seval,aX,aV,aP,aZ,aN,rR,CX,dN,dV,gL hfq,eZ hfq,c41,K4]
    ·intro E54 m55 e56 _;simp only [aC,aA];refine aQ λK hK=>?_;have K6:=qJ9 K1 f12 c10 f15 f16 f23 f24 c33 e56;simp only [go_sem,seval,Lb,Rk,aN,rR,CX,dN,aX,aP,aV,dV,gL hfq,eZ hfq,K6]
     first | apply hK | (refine ⟨by omega,?_⟩;apply hK)
     simp only [aC,aA];refine ⟨c29,No _,(i64.wrap (v26+(1:Int))),y34,j28,?_⟩;simp only [go_sem,seval,aX,aV,aP,aZ,aN,rR,CX,dN,dV,gL hfq,eZ hfq,K6]
   ·refine lZ ?_
    try simp only [seval,bD,aY,aC,aA]
    obtain rfl:=bU j28;refine aL ?_;obtain ⟨x57,h58,h⟩:=aI h;refine aQ λK hK=>?_;simp only [go_sem,seval,Lb,Rk,aN,rR,CX,dN,aX,aP,aV,dV,gL hfq,eZ hfq,c33,K3];refine SC.mono (wA n v27 a0.bO _ h58 _ _ _ (21::q) (15::q) (by simp only [go_sem,seval,aN,rR,CX,dN,aX,aP,aV,dV,gL hfq,eZ hfq,c33,K3])) ?_;rintro _ _ ⟨vr_x57,rfl,rfl⟩;simp only [go_sem,seval,aN,rR,CX,dN,aX,aP,aV,dV,gL hfq,eZ hfq,c33,K3]
    first | apply hK | (refine ⟨by omega,?_⟩;apply hK)
    simp only [aC,aA];refine aL (aL (aQ λK hK=>?_));simp only [go_sem,seval,Lb,Rk,aN,rR,CX,dN,aX,aP,aV,dV,gL hfq,eZ hfq,c33,K3]
    first | apply hK | (refine ⟨by omega,?_⟩;apply hK)
    simp only [aC,aA];refine fD h (λc59 h=>?_) (λc59 h=>?_)
    ·refine aL (nA [(0,0),(5,0),(1,0),(2,0),(3,0),(4,1),(6,0)] 47 λK hK=>?_);simp only [go_sem,seval,Lb,Rk,aN,rR,CX,dN,aX,aP,aV,dV,gL hfq,eZ hfq,c33,c59,K3]
     first | apply hK | (refine ⟨by omega,?_⟩;apply hK)
     simp only [aC,aA];refine cV ?_
     try simp only [aU,aR]
     cases h;refine ⟨by simp,?_⟩;simp only [go_sem,seval,aX,aV,aP,aZ,aN,rR,CX,dN,dV,gL hfq,eZ hfq,c33,c59,K3]
    ·refine cO ?_
     try simp only [aC,aA]
     refine aL (SW_frz (p:=(21::q)) (id:=(15::q)) (cs:=[.vec (15::q) 3 x57.c_.bN.length,.list .self (x57.c_.gM.map (cI .i64)),.list .self (x57.c_.sZ.map (cI .u32)),.list .self (x57.c_.nD.map (cI .u32)),.li x57.e_]) (off:=0) (sz:=3) (f:=aK.C) (l:=x57.c_.bN) (h0:=m.hp) (by simp only [go_sem,seval,aN,rR,CX,dN,aX,aP,aV,dV,gL hfq,eZ hfq,c33,c59,K3]) rfl (by rfl) (by simp only [go_sem,seval,aN,rR,CX,dN,aX,aP,aV,dV,gL hfq,eZ hfq,c33,c59,K3]) f12 (λx=>by rw [aK.C_eq];rfl) (by decide) ?_);refine aQ λK hK=>?_;have K7:=qJ9 K1 c10 f15 f16 f23 f24 c33 c59 e32;simp only [go_sem,seval,Lb,Rk,aN,rR,CX,dN,aX,aP,aV,dV,gL hfq,eZ hfq,K7]
     first | apply hK | (refine ⟨by omega,?_⟩;apply hK)
     simp only [aC,aA];refine cV ?_
     try simp only [aU,aR]
     cases h;refine ⟨by simp,?_⟩;simp only [go_sem,seval,aX,aV,aP,aZ,aN,rR,CX,dN,dV,gL hfq,eZ hfq,K7]
instance:nB 11 (∀n,Gi (tZ n)):=⟨Jw⟩
def AL (f:bQ->Int->Option Int):Prop:=∀a0 a1 r,f a0 a1=some r->Bi prog 19 [.agg ((bQ.C a0)),.li a1] (.li r)
theorem FF:AL (cJ):=λa0 a1 r h q m vs hv=>SC.wva hv (cZ func19 call19 ntmps19 results19 rfl (wk (.j 2 1 20 [.v 23 Bool λy=>.lb y] [1,2] [2] [] none .z (.c .z (.j 2 4 57 [.v 59 Bool λy=>.lb y] [5] [] [] none .z .z))) q m (cJ.eq_1 _ _) h))
instance:nB 19 (AL cJ):=⟨FF⟩
def vW (f:Option Bool):Prop:=∀r,f=some r->∀(q:Pa) (m:M) (vs:List V),vs.map V.weak1=[]/\(m.hp=λ_=>none)/\m.gl 0=.eptr [(cA bY.C eB)] 0 0/\m.gl 1=.eptr [(cA bJ.C cM)] 0 0/\m.gl 2=.eptr [[.lw 0,.lw 4294967295]] 0 0/\m.gl 3=.eptr [(cA cS fH)] 0 0/\m.gl 4=.eptr [(cA cS cD)] 0 0/\m.gl 6=.eptr [(cA (cA cS) cU)] 0 0->SC prog 9 vs q m (λv Y=>v=.lb r/\Y=m)
theorem Cs (n:Nat):vW (lS n):=λr h q m vs ⟨hv,_,_,_,_,_,_,_⟩=>SC.wva hv (cZ func9 call9 ntmps9 results9 rfl (wk (.j 2 3 33 [.v 31 Bool λy=>.lb y] [4] [4] [] none .z (.c .z (.j 2 6 55 [.v 0 Bool λy=>.lb y] [] [] [] none .z .z))) q m (lS.eq_1 _) h))
instance:nB 9 (∀n,vW (lS n)):=⟨Cs⟩
def oA (f:(List aB)->Option (List Int)):Prop:=∀a0 r,f a0=some r->Bi prog 18 [.list .none (a0.map aB.C)] (.list .none (r.map (cI .i64)))
theorem Cr {dW} (CK:oA dW) (n:Nat):oA (nZ dW n):=haveI:nB 18 (oA dW):=⟨CK⟩;λa0 r h q m vs hv=>SC.wva hv (cZ func18 call18 ntmps18 results18 rfl (wk (.s 3 (.l [.o 3 (List Int) λy=>(y.map (cI .i64)),.v 8 Int λy=>.li y] [6,7] [] [] none (.c (.j 1 1 26 [.o 3 (List Int) λy=>(y.map (cI .i64))] [6,7,8] [] [] none .z .z) .z) .z)) q m (nZ.eq_1 _ _ _) h))
theorem xB:∀n,oA (jG n)
 | 0=>λ_ _ h=>dF h
 | n+1=>Cr (xB n) n
instance:nB 18 (∀n,oA (jG n)):=⟨xB⟩
def Hz (f:Int->Option Int):Prop:=∀a0 r,f a0=some r->Bi prog 75 [.li a0] (.li r)
theorem Lm:Hz (zX):=λa0 r h q m vs hv=>SC.wva hv (cZ func75 call75 ntmps75 results75 rfl (wk .z q m (zX.eq_1 _) h))
instance:nB 75 (Hz zX):=⟨Lm⟩
def uK (f:aK->Option Bool):Prop:=∀a0 r,f a0=some r->Bi prog 47 [.agg ((aK.C a0))] (.lb r)
def eD (f:(List aK)->Option Bool):Prop:=∀a0 r,f a0=some r->Bi prog 76 [.list .none (a0.map aK.C),.fn (.func 77) [] []] (.lb r)
def wK (f:aK->Option Bool):Prop:=∀a0 r,f a0=some r->Bi prog 77 [.agg ((aK.C a0))] (.lb r)
def eQ (f:(List aK)->Option Int):Prop:=∀a0 r,f a0=some r->Bi prog 104 [.list .none (a0.map aK.C),.fn (.func 77) [] []] (.li r)
theorem In {dA} (pY:eD dA) (n:Nat):uK (vT dA n):=haveI:nB 76 (eD dA):=⟨pY⟩;λa0 r h q m vs hv=>SC.wva hv (cZ func47 call47 ntmps47 results47 rfl (wk (.j 2 1 39 [.v 39 Bool λy=>.lb y] [1] [1] [] none .z .z) q m (vT.eq_1 _ _ _) h))
theorem pU {dG} (qU:eQ dG) (n:Nat):eD (dE dG n):=haveI:nB 104 (eQ dG):=⟨qU⟩;λa0 r h q m vs hv=>SC.wva hv (cZ func76 call76 ntmps76 results76 rfl (wk .z q m (dE.eq_1 _ _ _) h))
theorem GW {uG} (Iz:uK uG) (n:Nat):wK (sF uG n):=haveI:nB 47 (uK uG):=⟨Iz⟩;λa0 r h q m vs hv=>SC.wva hv (cZ func77 call77 ntmps77 results77 rfl (wk .z q m (sF.eq_1 _ _ _) h))
theorem qR {mL} (Hk:wK mL) (n:Nat):eQ (dL mL n):=haveI:nB 77 (wK mL):=⟨Hk⟩;λa0 r h q m vs hv=>SC.wva hv (cZ func104 call104 ntmps104 results104 rfl (wk (.l [.v 8 Int λy=>.li y] [0,1,7] [] [] none .z .z) q m (dL.eq_1 _ _ _) h))
theorem BF:∀n,uK (CY n)/\eD (rM n)/\wK (Ll n)/\eQ (rZ n)
 | 0=>⟨λ_ _ h=>dF h,λ_ _ h=>dF h,λ_ _ h=>dF h,λ_ _ h=>dF h⟩
 | n+1=>
   have ih:=BF n
   ⟨In ih.2.1 n,pU ih.2.2.2 n,GW ih.1 n,qR ih.2.2.1 n⟩
theorem Kb (n:Nat):uK (CY n):=(BF n).1
instance:nB 47 (∀n,uK (CY n)):=⟨Kb⟩
def CZ (f:aK->Option Bool):Prop:=∀a0 r,f a0=some r->Bi prog 20 [.agg ((aK.C a0))] (.lb r)
theorem GX (n:Nat):CZ (sG n):=λa0 r h q m vs hv=>SC.wva hv (cZ func20 call20 ntmps20 results20 rfl (wk (.j 2 1 10 [.v 2 Bool λy=>.lb y] [] [] [] none .z .z) q m (sG.eq_1 _ _) h))
instance:nB 20 (∀n,CZ (sG n)):=⟨GX⟩
def tO (f:cF->Int->Option Bool):Prop:=∀a0 a1 r,f a0 a1=some r->∀(q:Pa) (m:M) (vs:List V),vs.map V.weak1=[.list .none (pZ a0),.li a1]/\(m.hp=λ_=>none)/\m.gl 0=.eptr [(cA bY.C eB)] 0 0/\m.gl 1=.eptr [(cA bJ.C cM)] 0 0/\m.gl 2=.eptr [[.lw 0,.lw 4294967295]] 0 0/\m.gl 3=.eptr [(cA cS fH)] 0 0/\m.gl 4=.eptr [(cA cS cD)] 0 0/\m.gl 6=.eptr [(cA (cA cS) cU)] 0 0->SC prog 5 vs q m (λv Y=>v=.lb r/\Y=m)
theorem Aa (n:Nat):tO (kR n):=λa0 a1 r h q m vs ⟨hv,_,_,_,_,_,_,_⟩=>SC.wva hv (cZ func5 call5 ntmps5 results5 rfl (wk (.c .z (.c .z (.c (.j 2 9 58 [.v 4 Bool λy=>.lb y] [] [] [] none .z .z) (.j 2 10 74 [.v 105 Bool λy=>.lb y] [5,8,10] [8,5] [] none .z (.c .z (.l [.v 108 Int λy=>.li y] [5,8,106,107] [8,5] [] none (.c (.j 2 15 21 [.v 127 Bool λy=>.lb y] [5,8,106,107,108] [8,5] [] none .z .z) .z) (.l [.v 132 Int λy=>.li y] [5,8,130,131] [8,5] [] none (.c (.j 11 3 38 [] [5,8,130,131,132] [8,5] [] none (.c (.j 2 23 26 [.v 153 Bool λy=>.lb y] [5,8,130,131,132] [8,5] [] none .z .z) (.j 2 25 38 [.v 174 Bool λy=>.lb y] [5,8,130,131,132] [8,5] [] none .z .z)) .z) .z) (.j 2 28 95 [.v 4 Bool λy=>.lb y] [] [] [] none .z .z)))))))) q m (kR.eq_1 _ _ _) h))
