import Derived.Test.YtnnomaboaiokeaaGreatDoorLGFw
import Derived.Test.YtnnomaboaiokeaaGreatDoorLVt2
namespace Go.Proofs.YtnnomaboaiokeaaGreatDoor.Abs
open Go.RowKit Tryz
open IntKind (i64 u32 u64 u8)
set_option linter.all false
set_option maxRecDepth 10000
set_option maxHeartbeats 2000000
open Tryz
instance:KP aN.C 3:=⟨λx=>by rw [aN.C_eq];rfl⟩
def zI (f:(List aC)->Option Int):Prop:=∀a0 r,f a0=some r->BH prog 33 [.list .none (a0.map aC.C)] (.li r)
theorem HQ {jX} (HN:zI jX) (n:Nat):zI (vA jX n):=haveI:nK 33 (zI jX):=⟨HN⟩;λa0 r h q m vs hv=>SC.wva hv (cY func33 call33 ntmps33 results33 rfl (wk (.l [.v 3 Int λy=>.li y,.v 8 Int λy=>.li y] [6,7] [] [] none (.c (.j 1 1 21 [.v 3 Int λy=>.li y] [6,7,8] [] [] none .z .z) .z) .z) q m (vA.eq_1 _ _ _) h))
theorem Fq:∀n,zI (wH n)
 | 0=>λ_ _ h=>dS h
 | n+1=>HQ (Fq n) n
def xX (f:(List Int)->Int->Option (List Int)):Prop:=∀a0 a1 r,f a0 a1=some r->BH prog 34 [.list .none (a0.map (cI .u32)),.li a1] (.list .exact (r.map (cI .u32)))
theorem rM:xX sN:=λa0 a1 r h q m vs hv=>QL h q m vs hv
def KV (f:Int->Option aN):Prop:=∀a0 r,f a0=some r->BH prog 35 [.li a0] (.agg ((aN.C r)))
theorem Jm:KV (DU):=λa0 r h q m vs hv=>SC.wva hv (cY func35 call35 ntmps35 results35 rfl (wk .z q m (DU.eq_1 _) h))
instance:nK 35 (KV DU):=⟨Jm⟩
def wU (f:aN->Option Int):Prop:=∀a0 r,f a0=some r->BH prog 21 [.agg ((aN.C a0))] (.li r)
theorem Iz {pJ} (IF:wU pJ) (n:Nat):wU (wT pJ n):=haveI:nK 21 (wU pJ):=⟨IF⟩;λa0 r h q m vs hv=>SC.wva hv (cY func21 call21 ntmps21 results21 rfl (wk (.l [.v 3 Int λy=>.li y,.v 9 Int λy=>.li y] [7,8] [] [] none .z .z) q m (wT.eq_1 _ _ _) h))
theorem Ga:∀n,wU (vN n)
 | 0=>λ_ _ h=>dS h
 | n+1=>Iz (Ga n) n
instance:nK 21 (∀n,wU (vN n)):=⟨Ga⟩
def oD (f:bH->aF->Option Int):Prop:=∀a0 a1 r,f a0 a1=some r->∀(q:Pa) (m:M) (vs:List V) (T0:V),vs.map V.weak1=[.agg ([T0,.list .none (a0.dT.map (cI .i64)),.list .none (a0.tT.map (cI .u32)),.list .none (a0.pC.map (cI .u32))]),.agg ((aF.C a1))]/\Rd m.hp T0 aN.C 3 a0.bP->SC prog 39 vs q m (λv Y=>v=.li r/\Y=m)
theorem Cf {fY} (Ce:oD fY) (n:Nat):oD (eK fY n):=haveI:nK 39 (oD fY):=⟨Ce⟩;λa0 a1 r h q m vs T0 ⟨hv,hrd⟩=>SC.wva hv (by rcases Rd.cases hrd with ⟨rfl,_⟩ | ⟨_,rfl,_⟩ <;> exact cY func39 call39 ntmps39 results39 rfl (wk (.c .z (.l [.v 5 Int λy=>.li y,.v 21 Int λy=>.li y] [2,19,20] [2] [] none .z .z)) q m (eK.eq_1 _ _ _ _) h))
theorem wI:∀n,oD (iA n)
 | 0=>λ_ _ _ h=>dS h
 | n+1=>Cf (wI n) n
instance:nK 39 (∀n,oD (iA n)):=⟨wI⟩
def If (f:aN->(List Int)->Option Int):Prop:=∀a0 a1 r,f a0 a1=some r->BH prog 42 [.agg ((aN.C a0)),.list .none (a1.map (cI .u32))] (.lw r)
theorem LC:If (AQ):=λa0 a1 r h q m vs hv=>SC.wva hv (cY func42 call42 ntmps42 results42 rfl (wk .z q m (AQ.eq_1 _ _) h))
instance:nK 42 (If AQ):=⟨LC⟩
def GF (f:Bool->Option Int):Prop:=∀a0 r,f a0=some r->BH prog 43 [.lb a0] (.lw r)
theorem Ku:GF (tU):=λa0 r h q m vs hv=>SC.wva hv (cY func43 call43 ntmps43 results43 rfl (wk .z q m (tU.eq_1 _) h))
instance:nK 43 (GF tU):=⟨Ku⟩
def Jj (f:Int->Int->Option Int):Prop:=∀a0 a1 r,f a0 a1=some r->BH prog 44 [.li a0,.lw a1] (.lw r)
theorem MJ:Jj (zL):=λa0 a1 r h q m vs hv=>SC.wva hv (cY func44 call44 ntmps44 results44 rfl (wk .z q m (zL.eq_1 _ _) h))
instance:nK 44 (Jj zL):=⟨MJ⟩
def uX (f:Int->Int->Option Int):Prop:=∀a0 a1 r,f a0 a1=some r->BH prog 102 [.lw a0,.li a1] (.lw r)
theorem Ca:uX (lM):=λa0 a1 r h q m vs hv=>SC.wva hv (cY func102 call102 ntmps102 results102 rfl (wk .z q m (lM.eq_1 _ _) h))
instance:nK 102 (uX lM):=⟨Ca⟩
def GH (f:Int->Int->Int->Option Int):Prop:=∀a0 a1 a2 r,f a0 a1 a2=some r->BH prog 73 [.li a0,.lw a1,.lw a2] (.lw r)
theorem Kv:GH (yQ):=λa0 a1 a2 r h q m vs hv=>SC.wva hv (cY func73 call73 ntmps73 results73 rfl (wk .z q m (yQ.eq_1 _ _ _) h))
instance:nK 73 (GH yQ):=⟨Kv⟩
def Jh (f:Int->Int->Int->Option (Int × Bool)):Prop:=∀a0 a1 a2 r,f a0 a1 a2=some r->BH prog 45 [.li a0,.lw a1,.lw a2] (.tup [.lw r.1,.lb r.2])
theorem MH:Jh (Dj):=λa0 a1 a2 r h q m vs hv=>SC.wva hv (cY func45 call45 ntmps45 results45 rfl (wk .z q m (Dj.eq_1 _ _ _) h))
instance:nK 45 (Jh Dj):=⟨MH⟩
def zN (f:aN->(List Int)->Option (Int × Bool)):Prop:=∀a0 a1 r,f a0 a1=some r->BH prog 16 [.agg ((aN.C a0)),.list .none (a1.map (cI .u32))] (.tup [.lw r.1,.lb r.2])
theorem Jl {tG} (JO:zN tG) (n:Nat):zN (mV tG n):=haveI:nK 16 (zN tG):=⟨JO⟩;λa0 a1 r h q m vs hv=>SC.wva hv (cY func16 call16 ntmps16 results16 rfl (wk (.c .z (.j 2 4 26 [.v 32 Bool λy=>.lb y] [1,2,6,7] [2] [] none .z .z)) q m (mV.eq_1 _ _ _ _) h))
theorem GK:∀n,zN (sB n)
 | 0=>λ_ _ _ h=>dS h
 | n+1=>Jl (GK n) n
instance:nK 16 (∀n,zN (sB n)):=⟨GK⟩
def KU (f:Int->Option aN):Prop:=∀a0 r,f a0=some r->BH prog 71 [.lw a0] (.agg ((aN.C r)))
theorem Om:KU (FE):=λa0 r h q m vs hv=>SC.wva hv (cY func71 call71 ntmps71 results71 rfl (wk .z q m (FE.eq_1 _) h))
instance:nK 71 (KU FE):=⟨Om⟩
def zM (f:aN->Option aN):Prop:=∀a0 r,f a0=some r->BH prog 40 [.agg ((aN.C a0))] (.agg ((aN.C r)))
theorem Jk {qN} (JN:zM qN) (n:Nat):zM (mU qN n):=haveI:nK 40 (zM qN):=⟨JN⟩;λa0 r h q m vs hv=>SC.wva hv (cY func40 call40 ntmps40 results40 rfl (wk (.l [.v 4 Bool λy=>.lb y,.v 21 Int λy=>.li y,.b 3 aN λy=>[.li y.iB,.lw y.N_,.list .self (y.aP.map aN.C)]] [2,3,19,20] [2] [] none (.c (.j 2 8 23 [.v 4 Bool λy=>.lb y] [2,3,19,20,21] [2,3] [] none .z .z) .z) .z) q m (mU.eq_1 _ _ _) h))
theorem GJ:∀n,zM (oX n)
 | 0=>λ_ _ h=>dS h
 | n+1=>Jk (GJ n) n
instance:nK 40 (∀n,zM (oX n)):=⟨GJ⟩
def Ip (f:cJ->Option Int):Prop:=∀a0 r,f a0=some r->∀(q:Pa) (m:M) (vs:List V),vs.map V.weak1=[.ls a0]/\m.gl 0=.eptr [(cA bX.C dP)] 0 0->SC prog 72 vs q m (λv Y=>v=.li r/\Y=m)
theorem LW (n:Nat):Ip (AV n):=λa0 r h q m vs ⟨hv,_⟩=>SC.wva hv (cY func72 call72 ntmps72 results72 rfl (wk (.l [.v 6 Int λy=>.li y] [0,5] [] [] none .z .z) q m (AV.eq_1 _ _) h))
instance:nK 72 (∀n,Ip (AV n)):=⟨LW⟩
def oW (f:bH->aF->Option aN):Prop:=∀a0 a1 r,f a0 a1=some r->∀(q:Pa) (m:M) (vs:List V) (T0:V),vs.map V.weak1=[.agg ([T0,.list .none (a0.dT.map (cI .i64)),.list .none (a0.tT.map (cI .u32)),.list .none (a0.pC.map (cI .u32))]),.agg ((aF.C a1))]/\m.gl 0=.eptr [(cA bX.C dP)] 0 0/\Rd m.hp T0 aN.C 3 a0.bP->SC prog 41 vs q m (λv Y=>v=.agg ((aN.C r))/\Y=m)
theorem Dg {gM} (Df:oW gM) (n:Nat):oW (eY gM n):=haveI:nK 41 (oW gM):=⟨Df⟩;λa0 a1 r h q m vs T0 ⟨hv,_,hrd⟩=>SC.wva hv (by rcases Rd.cases hrd with ⟨rfl,_⟩ | ⟨_,rfl,_⟩ <;> exact cY func41 call41 ntmps41 results41 rfl (wk (.c .z (.c .z (.l [.v 30 Int λy=>.li y,.b 5 aN λy=>[.li y.iB,.lw y.N_,.list .self (y.aP.map aN.C)]] [2,4,5,28,29] [2,4] [] none .z .z))) q m (eY.eq_1 _ _ _ _) h))
theorem xQ:∀n,oW (iN n)
 | 0=>λ_ _ _ h=>dS h
 | n+1=>Dg (xQ n) n
instance:nK 41 (∀n,oW (iN n)):=⟨xQ⟩
def BB (f:bH->aF->Option (aN × Int)):Prop:=∀a0 a1 r,f a0 a1=some r->∀(q:Pa) (m:M) (vs:List V) (T0:V),vs.map V.weak1=[.agg ([T0,.list .none (a0.dT.map (cI .i64)),.list .none (a0.tT.map (cI .u32)),.list .none (a0.pC.map (cI .u32))]),.agg ((aF.C a1))]/\m.gl 0=.eptr [(cA bX.C dP)] 0 0/\Rd m.hp T0 aN.C 3 a0.bP->SC prog 15 vs q m (λv Y=>v=.tup [.agg ((aN.C r.1)),.li r.2]/\Y=m)
theorem FW (n:Nat):BB (oY n):=λa0 a1 r h q m vs T0 ⟨hv,_,hrd⟩=>SC.wva hv (by rcases Rd.cases hrd with ⟨rfl,_⟩ | ⟨_,rfl,_⟩ <;> exact cY func15 call15 ntmps15 results15 rfl (wk .z q m (oY.eq_1 _ _ _) h))
instance:nK 15 (∀n,BB (oY n)):=⟨FW⟩
def xA (f:aT->aF->Option (aN × aT)):Prop:=∀a0 a1 r,f a0 a1=some r->∀(q:Pa) (m:M) (vs:List V) (P0:Pa) (W:Pa),vs.map V.weak1=[.ptr P0 0,.agg ((aF.C a1))]/\m.blk P0=some ([.vec W 3 a0.c_.bP.length,.list .self (a0.c_.dT.map (cI .i64)),.list .self (a0.c_.tT.map (cI .u32)),.list .self (a0.c_.pC.map (cI .u32)),.li a0.e_])/\m.gl 0=.eptr [(cA bX.C dP)] 0 0/\m.hp W=some (a0.c_.bP.map aN.C).flatten->SC prog 65 vs q m (λv Y=>∃vr,v=.agg ((aN.C r.1))/\Y=m.ck P0 ([.vec W 3 r.2.c_.bP.length,.list .self (r.2.c_.dT.map (cI .i64)),.list .self (r.2.c_.tT.map (cI .u32)),.list .self (r.2.c_.pC.map (cI .u32)),.li r.2.e_]) (oP m.hp W (r.2.c_.bP.map aN.C).flatten) vr)
theorem Du (n:Nat):xA (lA n):=λa0 a1 r h q m vs P0 W ⟨hv,w0,_,hkW⟩=>SC.wva hv (SC.ac w0 λ_ _ _=>have hW0:=FJ hkW;cY func65 call65 ntmps65 results65 rfl (wk .z q m (lA.eq_1 _ _ _) h))
instance:nK 65 (∀n,xA (lA n)):=⟨Du⟩
def nW (f:aT->aF->Option aT):Prop:=∀a0 a1 r,f a0 a1=some r->∀(q:Pa) (m:M) (vs:List V) (P0:Pa) (W:Pa),vs.map V.weak1=[.ptr P0 0,.agg ((aF.C a1))]/\m.blk P0=some ([.vec W 3 a0.c_.bP.length,.list .self (a0.c_.dT.map (cI .i64)),.list .self (a0.c_.tT.map (cI .u32)),.list .self (a0.c_.pC.map (cI .u32)),.li a0.e_])/\m.gl 0=.eptr [(cA bX.C dP)] 0 0/\m.hp W=some (a0.c_.bP.map aN.C).flatten->SC prog 64 vs q m (λv Y=>∃vr,v=.tup []/\Y=m.ck P0 ([.vec W 3 r.c_.bP.length,.list .self (r.c_.dT.map (cI .i64)),.list .self (r.c_.tT.map (cI .u32)),.list .self (r.c_.pC.map (cI .u32)),.li r.e_]) (oP m.hp W (r.c_.bP.map aN.C).flatten) vr)
theorem BQ {fX} (Cb:nW fX) (n:Nat):nW (nV fX n):=haveI:nK 64 (nW fX):=⟨Cb⟩;λa0 a1 r h q m vs P0 W ⟨hv,w0,_,hkW⟩=>SC.wva hv (SC.ac w0 λ_ _ _=>have hW0:=FJ hkW;cY func64 call64 ntmps64 results64 rfl (wk (.l [.v 11 Int λy=>.li y,.w 0 aT (λy=>[.vec W 3 y.c_.bP.length,.list .self (y.c_.dT.map (cI .i64)),.list .self (y.c_.tT.map (cI .u32)),.list .self (y.c_.pC.map (cI .u32)),.li y.e_]) λy h=>oP h W (y.c_.bP.map aN.C).flatten] [0,3,9,10] [3] [] (some P0) .z (.j 2 6 19 [.v 31 Bool λy=>.lb y] [0,3] [0,3] [] (some P0) .z (.c (.l [.v 35 Int λy=>.li y,.w 0 aT (λy=>[.vec W 3 y.c_.bP.length,.list .self (y.c_.dT.map (cI .i64)),.list .self (y.c_.tT.map (cI .u32)),.list .self (y.c_.pC.map (cI .u32)),.li y.e_]) λy h=>oP h W (y.c_.bP.map aN.C).flatten] [0,33,34] [] [] (some P0) .z .z) .z))) q m (nV.eq_1 _ _ _ _) h))
theorem wA:∀n,nW (lC n)
 | 0=>λ_ _ _ h=>dS h
 | n+1=>BQ (wA n) n
instance:nK 64 (∀n,nW (lC n)):=⟨wA⟩
def KT (f:(List Int)->Int->Int->Option Int):Prop:=∀a0 a1 a2 r,f a0 a1 a2=some r->BH prog 138 [.list .none (a0.map (cI .u32)),.lw a1,.lw a2] (.lw r)
theorem Ol:KT (DT):=λa0 a1 a2 r h q m vs hv=>SC.wva hv (cY func138 call138 ntmps138 results138 rfl (wk .z q m (DT.eq_1 _ _ _) h))
instance:nK 138 (KT DT):=⟨Ol⟩
def Cj (f:Int->Int->Int->Option (Int × Int)):Prop:=∀a0 a1 a2 r,f a0 a1 a2=some r->BH prog 194 [.lw a0,.lw a1,.lw a2] (.tup [.lw r.1,.lw r.2])
theorem Gq:Cj (rK):=λa0 a1 a2 r h q m vs hv=>SC.wva hv (cY func194 call194 ntmps194 results194 rfl (wk .z q m (rK.eq_1 _ _ _) h))
instance:nK 194 (Cj rK):=⟨Gq⟩
def Ji (f:bW->bW->Option bW):Prop:=∀a0 a1 r,f a0 a1=some r->∀(q:Pa) (m:M) (vs:List V),vs.map V.weak1=[.agg ((bW.C a0)),.agg ((bW.C a1))]/\m.gl 2=.eptr [[.lw 0,.lw 4294967295]] 0 0->SC prog 170 vs q m (λv Y=>v=.agg ((bW.C r))/\Y=m)
theorem MI:Ji (Dk):=λa0 a1 r h q m vs ⟨hv,_⟩=>SC.wva hv (cY func170 call170 ntmps170 results170 rfl (wk .z q m (Dk.eq_1 _ _) h))
instance:nK 170 (Ji Dk):=⟨MI⟩
def Ci (f:Int->Int->Option (Int × Int)):Prop:=∀a0 a1 r,f a0 a1=some r->BH prog 97 [.lw a0,.lw a1] (.tup [.lw r.1,.lw r.2])
theorem Gp:Ci (tD):=λa0 a1 r h q m vs hv=>SC.wva hv (cY func97 call97 ntmps97 results97 rfl (wk .z q m (tD.eq_1 _ _) h))
instance:nK 97 (Ci tD):=⟨Gp⟩
def EV (f:bW->bW->Option bW):Prop:=∀a0 a1 r,f a0 a1=some r->∀(q:Pa) (m:M) (vs:List V),vs.map V.weak1=[.agg ((bW.C a0)),.agg ((bW.C a1))]/\m.gl 2=.eptr [[.lw 0,.lw 4294967295]] 0 0->SC prog 171 vs q m (λv Y=>v=.agg ((bW.C r))/\Y=m)
theorem Iy:EV (uF):=λa0 a1 r h q m vs ⟨hv,_⟩=>SC.wva hv (cY func171 call171 ntmps171 results171 rfl (wk .z q m (uF.eq_1 _ _) h))
instance:nK 171 (EV uF):=⟨Iy⟩
def FY (f:Int->bW->bW->Option bW):Prop:=∀a0 a1 a2 r,f a0 a1 a2=some r->∀(q:Pa) (m:M) (vs:List V),vs.map V.weak1=[.li a0,.agg ((bW.C a1)),.agg ((bW.C a2))]/\m.gl 2=.eptr [[.lw 0,.lw 4294967295]] 0 0->SC prog 139 vs q m (λv Y=>v=.agg ((bW.C r))/\Y=m)
theorem Jg:FY (vW):=λa0 a1 a2 r h q m vs ⟨hv,_⟩=>SC.wva hv (cY func139 call139 ntmps139 results139 rfl (wk .z q m (vW.eq_1 _ _ _) h))
instance:nK 139 (FY vW):=⟨Jg⟩
def wS (f:aN->(List Int)->(List Int)->Option bW):Prop:=∀a0 a1 a2 r,f a0 a1 a2=some r->∀(q:Pa) (m:M) (vs:List V),vs.map V.weak1=[.agg ((aN.C a0)),.list .none (a1.map (cI .u32)),.list .none (a2.map (cI .u32))]/\m.gl 2=.eptr [[.lw 0,.lw 4294967295]] 0 0->SC prog 103 vs q m (λv Y=>v=.agg ((bW.C r))/\Y=m)
theorem Ix {sE} (IE:wS sE) (n:Nat):wS (nL sE n):=haveI:nK 103 (wS sE):=⟨IE⟩;λa0 a1 a2 r h q m vs ⟨hv,_⟩=>SC.wva hv (cY func103 call103 ntmps103 results103 rfl (wk .z q m (nL.eq_1 _ _ _ _ _) h))
theorem FZ:∀n,wS (sQ n)
 | 0=>λ_ _ _ _ h=>dS h
 | n+1=>Ix (FZ n) n
instance:nK 103 (∀n,wS (sQ n)):=⟨FZ⟩
def GI (f:aN->(List Int)->(List Int)->Option (Int × Int)):Prop:=∀a0 a1 a2 r,f a0 a1 a2=some r->∀(q:Pa) (m:M) (vs:List V),vs.map V.weak1=[.agg ((aN.C a0)),.list .none (a1.map (cI .u32)),.list .none (a2.map (cI .u32))]/\m.gl 2=.eptr [[.lw 0,.lw 4294967295]] 0 0->SC prog 74 vs q m (λv Y=>v=.tup [.lw r.1,.lw r.2]/\Y=m)
theorem Kw (n:Nat):GI (Bb n):=λa0 a1 a2 r h q m vs ⟨hv,_⟩=>SC.wva hv (cY func74 call74 ntmps74 results74 rfl (wk .z q m (Bb.eq_1 _ _ _ _) h))
instance:nK 74 (∀n,GI (Bb n)):=⟨Kw⟩
def Ae (f:bH->aF->Option (Int × Int)):Prop:=∀a0 a1 r,f a0 a1=some r->∀(q:Pa) (m:M) (vs:List V) (T0:V),vs.map V.weak1=[.agg ([T0,.list .none (a0.dT.map (cI .i64)),.list .none (a0.tT.map (cI .u32)),.list .none (a0.pC.map (cI .u32))]),.agg ((aF.C a1))]/\m.gl 0=.eptr [(cA bX.C dP)] 0 0/\m.gl 2=.eptr [[.lw 0,.lw 4294967295]] 0 0/\Rd m.hp T0 aN.C 3 a0.bP->SC prog 46 vs q m (λv Y=>v=.tup [.lw r.1,.lw r.2]/\Y=m)
theorem EQ (n:Nat):Ae (gJ n):=λa0 a1 r h q m vs T0 ⟨hv,_,_,hrd⟩=>SC.wva hv (by rcases Rd.cases hrd with ⟨rfl,_⟩ | ⟨_,rfl,_⟩ <;> exact cY func46 call46 ntmps46 results46 rfl (wk .z q m (gJ.eq_1 _ _ _) h))
instance:nK 46 (∀n,Ae (gJ n)):=⟨EQ⟩
def xB (f:aT->aC->Option aT):Prop:=∀a0 a1 r,f a0 a1=some r->∀(q:Pa) (m:M) (vs:List V) (P0:Pa) (W:Pa),vs.map V.weak1=[.ptr P0 0,.agg ((aC.C a1))]/\m.blk P0=some ([.vec W 3 a0.c_.bP.length,.list .self (a0.c_.dT.map (cI .i64)),.list .self (a0.c_.tT.map (cI .u32)),.list .self (a0.c_.pC.map (cI .u32)),.li a0.e_])/\m.gl 0=.eptr [(cA bX.C dP)] 0 0/\m.gl 2=.eptr [[.lw 0,.lw 4294967295]] 0 0/\m.hp W=some (a0.c_.bP.map aN.C).flatten->SC prog 66 vs q m (λv Y=>∃vr,v=.tup []/\Y=m.ck P0 ([.vec W 3 r.c_.bP.length,.list .self (r.c_.dT.map (cI .i64)),.list .self (r.c_.tT.map (cI .u32)),.list .self (r.c_.pC.map (cI .u32)),.li r.e_]) (oP m.hp W (r.c_.bP.map aN.C).flatten) vr)
theorem Dv (n:Nat):xB (lB n):=λa0 a1 r h q m vs P0 W ⟨hv,w0,_,_,hkW⟩=>SC.wva hv (SC.ac w0 λ_ _ _=>have hW0:=FJ hkW;cY func66 call66 ntmps66 results66 rfl (wk .z q m (lB.eq_1 _ _ _) h))
instance:nK 66 (∀n,xB (lB n)):=⟨Dv⟩
def pW (f:aT->(List aC)->Option aT):Prop:=∀a0 a1 r,f a0 a1=some r->∀(q:Pa) (m:M) (vs:List V) (P0:Pa) (W:Pa),vs.map V.weak1=[.ptr P0 0,.list .none (a1.map aC.C)]/\m.blk P0=some ([.vec W 3 a0.c_.bP.length,.list .self (a0.c_.dT.map (cI .i64)),.list .self (a0.c_.tT.map (cI .u32)),.list .self (a0.c_.pC.map (cI .u32)),.li a0.e_])/\m.gl 0=.eptr [(cA bX.C dP)] 0 0/\m.gl 2=.eptr [[.lw 0,.lw 4294967295]] 0 0/\m.hp W=some (a0.c_.bP.map aN.C).flatten->SC prog 36 vs q m (λv Y=>∃vr,v=.tup []/\Y=m.ck P0 ([.vec W 3 r.c_.bP.length,.list .self (r.c_.dT.map (cI .i64)),.list .self (r.c_.tT.map (cI .u32)),.list .self (r.c_.pC.map (cI .u32)),.li r.e_]) (oP m.hp W (r.c_.bP.map aN.C).flatten) vr)
theorem Bl {dL} (By:pW dL) (n:Nat):pW (nB dL n):=haveI:nK 36 (pW dL):=⟨By⟩;λa0 a1 r h q m vs P0 W ⟨hv,w0,_,_,hkW⟩=>SC.wva hv (SC.ac w0 λ_ _ _=>have hW0:=FJ hkW;cY func36 call36 ntmps36 results36 rfl (wk (.l [.v 11 Int λy=>.li y,.w 0 aT (λy=>[.vec W 3 y.c_.bP.length,.list .self (y.c_.dT.map (cI .i64)),.list .self (y.c_.tT.map (cI .u32)),.list .self (y.c_.pC.map (cI .u32)),.li y.e_]) λy h=>oP h W (y.c_.bP.map aN.C).flatten] [0,9,10] [] [] (some P0) (.c (.j 11 1 36 [.w 0 aT (λy=>[.vec W 3 y.c_.bP.length,.list .self (y.c_.dT.map (cI .i64)),.list .self (y.c_.tT.map (cI .u32)),.list .self (y.c_.pC.map (cI .u32)),.li y.e_]) λy h=>oP h W (y.c_.bP.map aN.C).flatten] [0,9,10,11] [] [] (some P0) (.l [.v 18 Int λy=>.li y,.w 0 aT (λy=>[.vec W 3 y.c_.bP.length,.list .self (y.c_.dT.map (cI .i64)),.list .self (y.c_.tT.map (cI .u32)),.list .self (y.c_.pC.map (cI .u32)),.li y.e_]) λy h=>oP h W (y.c_.bP.map aN.C).flatten] [0,5,9,10,11,16,17] [5] [] (some P0) (.c (.j 1 3 50 [.w 0 aT (λy=>[.vec W 3 y.c_.bP.length,.list .self (y.c_.dT.map (cI .i64)),.list .self (y.c_.tT.map (cI .u32)),.list .self (y.c_.pC.map (cI .u32)),.li y.e_]) λy h=>oP h W (y.c_.bP.map aN.C).flatten] [0,5,9,10,11,16,17,18] [5] [] (some P0) (.j 2 7 32 [.v 47 Bool λy=>.lb y] [0,5,7,9,10,11,16,17,18] [0,5,7] [] (some P0) .z .z) .z) .z) (.j 2 12 20 [.v 73 Bool λy=>.lb y] [0,5,9,10,11] [0,5] [] (some P0) .z .z)) .z) .z) .z) q m (nB.eq_1 _ _ _ _) h))
theorem uT:∀n,pW (fP n)
 | 0=>λ_ _ _ h=>dS h
 | n+1=>Bl (uT n) n
def Kb (f:aS->Option (bH × Int)):Prop:=∀a0 r,f a0=some r->∀(q:Pa) (m:M) (vs:List V),vs.map V.weak1=[.agg ((aS.C a0))]/\m.gl 0=.eptr [(cA bX.C dP)] 0 0/\m.gl 2=.eptr [[.lw 0,.lw 4294967295]] 0 0->SC prog 11 vs q m (λv Y=>v=.tup [.agg ((bH.C r.1)),.li r.2]/\Y=m)
theorem II (n:Nat):Kb (xR n):=by
 rintro a0 r h q m vs ⟨hv,hg0,hg2⟩;refine SC.wv hv ?_;refine SC.freshH λhfq=>?_;refine SC.hpq ?_;refine sL func11 call11 ntmps11 results11 ?_;unfold xR at h;refine aK (aQ λK hK=>?_);simp only [go_sem,seval,aM,qV,Ch,dH,aW,aO,aV,dQ,gD hfq,eU hfq,hg0,hg2]
 first | apply hK | (refine ⟨by omega,?_⟩;apply hK)
 simp only [aB,aA];refine aK (aK ?_);obtain ⟨y3,j3,h⟩:=aI h;refine xV 12 (λX Y=>X 1=.ptr (0::q) 0/\X 2=.ptr (1::q) 0/\X 15=.lb y3/\Y.blk (0::q)=some ((aS.C a0))/\Y.blk (1::q)=some ([.list .self ([].map aN.C),.list .self ([].map (cI .i64)),.list .self ([].map (cI .u32)),.list .self ([].map (cI .u32))])/\Y.gl=m.gl/\Y.hp=m.hp/\m.back q Y=m) ?_ ?_
 ·rcases xI j3 with ⟨c4,j3⟩ | ⟨c4,j3⟩
  ·refine aQ λK hK=>?_;simp only [go_sem,seval,aM,qV,Ch,dH,aW,aO,aV,dQ,gD hfq,eU hfq,c4,hg0,hg2]
   first | apply hK | (refine ⟨by omega,?_⟩;apply hK)
   simp only [aB,aA];obtain rfl:=cC j3;refine ⟨by decide,?_⟩;simp only [go_sem,seval,aW,aV,aO,aZ,aM,qV,Ch,dH,dQ,gD hfq,eU hfq,c4,hg0,hg2]
  ·obtain ⟨x5,h6,j3⟩:=aI j3;refine aQ λK hK=>?_;simp only [go_sem,seval,aM,qV,Ch,dH,aW,aO,aV,dQ,gD hfq,eU hfq,c4,hg0,hg2];refine SC.by_ (Fq n a0.bV _ h6 _ _ _ (by simp only [go_sem,seval,aM,qV,Ch,dH,aW,aO,aV,dQ,gD hfq,eU hfq,c4,hg0,hg2])) ?_;simp only [go_sem,seval,aM,qV,Ch,dH,aW,aO,aV,dQ,gD hfq,eU hfq,c4,hg0,hg2]
   first | apply hK | (refine ⟨by omega,?_⟩;apply hK)
   simp only [aB,aA];obtain rfl:=cC j3;refine ⟨by decide,?_⟩;simp only [go_sem,seval,aW,aV,aO,aZ,aM,qV,Ch,dH,dQ,gD hfq,eU hfq,c4,hg0,hg2]
 ·intro E7 m8 e9 _;simp only [aB,aA];refine eV h (λc10 h=>?_) (λc10 h=>?_)
  ·refine aK (aQ λK hK=>?_);simp only [go_sem,seval,aM,qV,Ch,dH,aW,aO,aV,dQ,gD hfq,eU hfq,c10,e9,hg0,hg2]
   first | apply hK | (refine ⟨by omega,?_⟩;apply hK)
   simp only [aB,aA];refine cR ?_
   try simp only [aU,aR]
   cases h;refine ⟨by simp,?_⟩;simp only [go_sem,seval,aW,aV,aO,aZ,aM,qV,Ch,dH,dQ,gD hfq,eU hfq,c10,e9,hg0,hg2]
  ·refine cN ?_
   try simp only [aB,aA]
   refine aK ?_;obtain ⟨x11,h14,h⟩:=aI h;obtain ⟨⟨f15,f16⟩,h⟩:=cG h;refine wL λf17=>?_;have f12:m.hp (15::q)=none:=by have:=f17 15 (by omega);simpa only [go_sem,↓reduceIte,Nat.reduceEqDiff,Nat.reduceAdd,Nat.reduceMul,Nat.reduceLT,Nat.reduceLeDiff,reduceCtorEq,Int.reduceLE,Int.reduceLT,Int.reduceToNat,UInt8.reduceToNat,gD hfq,eU hfq,c10,f15,f16,e9,hg0,hg2] using this
   refine SW_px2 [0,1,3,7,0,0,32,127,255,511,1023] [0,1,2,4,5] 3 6 [7,8,9,10] rfl (by kernel_rfl) λK hK=>?_;have g18_3:List.filter (λj=>!sA [0,1,3,7,0,0,32,127,255,511,1023] j 3) [0,1,2,4,5].reverse=[5,4]:=by decide
   have g19_6:List.filter (λj=>!sA [0,1,3,7,0,0,32,127,255,511,1023] j 6) [5,4]=[4]:=by decide
   have g20_9:List.filter (λj=>!sA [0,1,3,7,0,0,32,127,255,511,1023] j 9) [8,7,4]=[]:=by decide
   have g21_6:List.filter (λj=>!sA [0,1,3,7,0,0,32,127,255,511,1023] j 6) [0,1,2,4,5].reverse=[4,2,1,0]:=by decide
   have g22_3:List.filter (λj=>!sA [0,1,3,7,0,0,32,127,255,511,1023] j 3) [4,2,1,0]=[4]:=by decide
   simp only [go_sem,seval,Kn,Qe,Di,g18_3,g19_6,g20_9,g21_6,g22_3,aM,qV,Ch,dH,aW,aO,aV,dQ,f12,gD hfq,eU hfq,c10,f15,f16,e9,hg0,hg2];refine Sy (T:=?Tw) ?kw (λkey=>SC.by_ (rM [(4294967295:Int)] (4:Int) _ h14 _ _ _ (by simp only [go_sem,seval,aM,qV,Ch,dH,aW,aO,aV,dQ,f12,gD hfq,eU hfq,c10,f15,f16,e9,hg0,hg2])) ?aw) (λkey=>SC.by_ (rM [(4294967295:Int)] (4:Int) _ h14 _ _ _ (by simp only [go_sem,seval,aM,qV,Ch,dH,aW,aO,aV,dQ,f12,gD hfq,eU hfq,c10,f15,f16,e9,hg0,hg2])) ?bw)
   case aw=>simp only [go_sem,seval,Kn,Qe,Di,g18_3,g19_6,g20_9,g21_6,g22_3,aM,qV,Ch,dH,aW,aO,aV,dQ,f12,gD hfq,eU hfq,c10,f15,f16,e9,hg0,hg2];exact key
   case bw=>simp only [go_sem,seval,Int.reduceToNat,UInt8.reduceToNat,Kn,Qe,Di,g18_3,g19_6,g20_9,g21_6,g22_3,updC (show (23=20)=False by simp),aM,qV,Ch,dH,aW,aO,aV,dQ,f12,gD hfq,eU hfq,c10,f15,f16,e9,hg0,hg2];exact key
   first | apply hK | (refine ⟨by omega,?_⟩;apply hK)
   simp only [aB,aA];refine SW_hnil (id:=(15::q)) (vs:=(List.replicate a0.aX.length [.li 0,.lw 0,.nilv]).flatten) (vs':=((List.replicate a0.aX.length aN.Z).map aN.C).flatten) (by simp only [go_sem,seval,aM,qV,Ch,dH,aW,aO,aV,dQ,f12,gD hfq,eU hfq,c10,f15,f16,e9,hg0,hg2]) (yL.mk (f:=aN.C) (z:=aN.Z) (by rw [show aN.C aN.Z=[.li 0,.lw 0,.list .none []] from by rw [aN.C_eq];rfl];exact ⟨.inl rfl,.inl rfl,.inr ⟨rfl,rfl⟩,trivial⟩) a0.aX.length) ?_;refine aK (aK ?_);obtain ⟨⟨f23,f24⟩,h⟩:=cG h;refine aQ λK hK=>?_;simp only [go_sem,seval,Kn,Qe,aM,qV,Ch,dH,aW,aO,aV,dQ,f12,gD hfq,eU hfq,c10,f15,f16,f23,f24,e9,hg0,hg2]
   first | apply hK | (refine ⟨by omega,?_⟩;apply hK)
   simp only [aB,aA];refine dM ?_;obtain ⟨y28,j28,h⟩:=aI h;refine wM (λc X Y=>∃v26 v27,rL a0 c v26 v27=some y28/\X 1=.ptr (0::q) 0/\X 2=.ptr (1::q) 0/\X 4=.ptr (21::q) 0/\X 31=.list .none ((a0.aX.take a0.bC.toNat).map aL.C)/\X 32=.li ((a0.aX.take a0.bC.toNat).length:Int)/\X 33=.li v26/\Y.blk (21::q)=some ([.vec (15::q) 3 v27.c_.bP.length,.list .self (v27.c_.dT.map (cI .i64)),.list .self (v27.c_.tT.map (cI .u32)),.list .self (v27.c_.pC.map (cI .u32)),.li v27.e_])/\Y.blk (0::q)=some ((aS.C a0))/\Y.blk (1::q)=some ([.list .self ([].map aN.C),.list .self ([].map (cI .i64)),.list .self ([].map (cI .u32)),.list .self ([].map (cI .u32))])/\Y.gl=m.gl/\Y.hp=oP m.hp (15::q) (v27.c_.bP.map aN.C).flatten/\(m.back q Y).seth m.hp=m) n ⟨(0:Int),(aT.mk (bH.mk (List.replicate a0.aX.length aN.Z) [] [(0:Int),(0:Int),(0:Int),(0:Int)] x11) (0:Int)),j28,?_⟩ ?_
   ·simp only [go_sem,seval,aW,aV,aO,aZ,aM,qV,Ch,dH,dQ,f12,gD hfq,eU hfq,c10,f15,f16,f23,f24,e9,hg0,hg2]
   rintro i25 c29 E30 m31 ⟨v26,v27,j28,e32⟩ _
   rcases c29 with _ | c29
   ·cases j28
   rw [rL] at j28;refine aK (aQ λK hK=>?_);simp only [go_sem,seval,Kn,Qe,aM,qV,Ch,dH,aW,aO,aV,dQ,f12,gD hfq,eU hfq,c10,f15,f16,f23,f24,e32,hg0,hg2]
   first | apply hK | (refine ⟨by omega,?_⟩;apply hK)
   simp only [aB,aA];refine aK (eV j28 (λc33 j28=>?_) (λc33 j28=>?_))
   ·refine cN ?_
    try simp only [aB,aA]
    refine aK ?_;obtain ⟨y34,j34,j28⟩:=aI j28;refine xV 20 (λX Y=>X 1=.ptr (0::q) 0/\X 2=.ptr (1::q) 0/\X 4=.ptr (21::q) 0/\X 31=.list .none ((a0.aX.take a0.bC.toNat).map aL.C)/\X 32=.li ((a0.aX.take a0.bC.toNat).length:Int)/\X 33=.li v26/\Y.blk (21::q)=some ([.vec (15::q) 3 y34.c_.bP.length,.list .self (y34.c_.dT.map (cI .i64)),.list .self (y34.c_.tT.map (cI .u32)),.list .self (y34.c_.pC.map (cI .u32)),.li y34.e_])/\Y.blk (0::q)=some ((aS.C a0))/\Y.blk (1::q)=some ([.list .self ([].map aN.C),.list .self ([].map (cI .i64)),.list .self ([].map (cI .u32)),.list .self ([].map (cI .u32))])/\Y.gl=m.gl/\Y.hp=oP m.hp (15::q) (y34.c_.bP.map aN.C).flatten/\(m.back q Y).seth m.hp=m) ?_ ?_
    ·refine dM (aK ?_);obtain ⟨x35,h40,j34⟩:=aI j34;obtain ⟨f37,f38,f39⟩:=bZ h40;refine aQ λK hK=>?_;simp only [go_sem,seval,Kn,Qe,aM,qV,Ch,dH,aW,aO,aV,dQ,f12,gD hfq,eU hfq,c10,f15,f16,f23,f24,c33,f37,f38,f39,e32,hg0,hg2]
     first | apply hK | (refine ⟨by omega,?_⟩;apply hK)
     simp only [aB,aA];refine aK (aQ λK hK=>?_);simp only [go_sem,seval,Kn,Qe,aM,qV,Ch,dH,aW,aO,aV,dQ,f12,gD hfq,eU hfq,c10,f15,f16,f23,f24,c33,f37,f38,f39,e32,hg0,hg2]
     first | apply hK | (refine ⟨by omega,?_⟩;apply hK)
     simp only [aB,aA];refine eV j34 (λc41 j34=>?_) (λc41 j34=>?_)
     ·obtain ⟨x42,h44,j34⟩:=aI j34;obtain ⟨x43,h48,j34⟩:=aI j34;obtain ⟨f45,f46,f47⟩:=bZ h48;obtain ⟨w49,d50⟩:=Nx (f:=aN.C) (sz:=3) (λx=>by rw [aN.C_eq];rfl) f47;simp only [go_sem,seval] at d50;have f51:(3<=w49.length+1+1+1)=True:=eq_true (by omega);have d52:=Ny (f:=aN.C) (sz:=3) (λx=>by rw [aN.C_eq];rfl) (l:=v27.c_.bP) (i:=v26.toNat) (by have:=f45;have:=f46;omega) x42;simp only [go_sem,seval] at d52;have f53:=flat_le (f:=aN.C) (sz:=3) (l:=v27.c_.bP) (λx=>by rw [aN.C_eq];rfl) (i:=v26.toNat) (by have:=f45;have:=f46;omega);refine mO [(6,0),(7,0),(0,0),(1,0),(2,0),(3,0),(4,1),(5,0),(8,0),(9,0)] 20 λK hK=>?_;simp only [go_sem,seval,Kn,Qe,aM,qV,Ch,dH,aW,aO,aV,dQ,f12,gD hfq,eU hfq,c10,f15,f16,f23,f24,c33,f37,f38,f39,c41,f45,f46,f47,d50,f51,d52,f53,e32,hg0,hg2];refine gR (Jm v26 _ h44 _ _ _ (by simp only [go_sem,seval,aM,qV,Ch,dH,aW,aO,aV,dQ,f12,gD hfq,eU hfq,c10,f15,f16,f23,f24,c33,f37,f38,f39,c41,f45,f46,f47,d50,f51,d52,f53,e32,hg0,hg2])) rfl ?_;simp only [go_sem,seval,aM,qV,Ch,dH,aW,aO,aV,dQ,f12,gD hfq,eU hfq,c10,f15,f16,f23,f24,c33,f37,f38,f39,c41,f45,f46,f47,d50,f51,d52,f53,e32,hg0,hg2]
      first | apply hK | (refine ⟨by omega,?_⟩;apply hK)
      simp only [aB,aA];obtain rfl:=cC j34;refine ⟨by decide,?_⟩;simp only [go_sem,seval,aW,aV,aO,aZ,aM,qV,Ch,dH,dQ,f12,gD hfq,eU hfq,c10,f15,f16,f23,f24,c33,f37,f38,f39,c41,f45,f46,f47,d50,f51,d52,f53,e32,hg0,hg2]
     ·refine cN ?_
      try simp only [aB,aA]
      obtain rfl:=cC j34;refine ⟨by decide,?_⟩;simp only [go_sem,seval,aW,aV,aO,aZ,aM,qV,Ch,dH,dQ,f12,gD hfq,eU hfq,c10,f15,f16,f23,f24,c33,f37,f38,f39,c41,e32,hg0,hg2]
    ·intro E54 m55 e56 _;simp only [aB,aA];refine aQ λK hK=>?_;simp only [go_sem,seval,Kn,Qe,aM,qV,Ch,dH,aW,aO,aV,dQ,f12,gD hfq,eU hfq,c10,f15,f16,f23,f24,c33,e56,hg0,hg2]
     first | apply hK | (refine ⟨by omega,?_⟩;apply hK)
     simp only [aB,aA];refine ⟨c29,Mt _,(i64.wrap (v26+(1:Int))),y34,j28,?_⟩;simp only [go_sem,seval,aW,aV,aO,aZ,aM,qV,Ch,dH,dQ,f12,gD hfq,eU hfq,c10,f15,f16,f23,f24,c33,e56,hg0,hg2]
   ·refine lO ?_
    try simp only [seval,bD,aY,aB,aA]
    obtain rfl:=cC j28;refine aK ?_;obtain ⟨x57,h58,h⟩:=aI h;refine aQ λK hK=>?_;simp only [go_sem,seval,Kn,Qe,aM,qV,Ch,dH,aW,aO,aV,dQ,f12,gD hfq,eU hfq,c10,f15,f16,f23,f24,c33,e32,hg0,hg2];refine SC.mono (uT n v27 a0.bV _ h58 _ _ _ (21::q) (15::q) (by simp only [go_sem,seval,aM,qV,Ch,dH,aW,aO,aV,dQ,f12,gD hfq,eU hfq,c10,f15,f16,f23,f24,c33,e32,hg0,hg2])) ?_;rintro _ _ ⟨vr_x57,rfl,rfl⟩;simp only [go_sem,seval,aM,qV,Ch,dH,aW,aO,aV,dQ,f12,gD hfq,eU hfq,c10,f15,f16,f23,f24,c33,e32,hg0,hg2]
    first | apply hK | (refine ⟨by omega,?_⟩;apply hK)
    simp only [aB,aA];refine aK (aK (aQ λK hK=>?_));simp only [go_sem,seval,Kn,Qe,aM,qV,Ch,dH,aW,aO,aV,dQ,f12,gD hfq,eU hfq,c10,f15,f16,f23,f24,c33,e32,hg0,hg2]
    first | apply hK | (refine ⟨by omega,?_⟩;apply hK)
    simp only [aB,aA];refine eV h (λc59 h=>?_) (λc59 h=>?_)
    ·refine aK (mO [(0,0),(5,0),(1,0),(2,0),(3,0),(4,1),(6,0)] 47 λK hK=>?_);simp only [go_sem,seval,Kn,Qe,aM,qV,Ch,dH,aW,aO,aV,dQ,f12,gD hfq,eU hfq,c10,f15,f16,f23,f24,c33,c59,e32,hg0,hg2]
     first | apply hK | (refine ⟨by omega,?_⟩;apply hK)
     simp only [aB,aA];refine cR ?_
     try simp only [aU,aR]
     cases h;refine ⟨by simp,?_⟩;simp only [go_sem,seval,aW,aV,aO,aZ,aM,qV,Ch,dH,dQ,f12,gD hfq,eU hfq,c10,f15,f16,f23,f24,c33,c59,e32,hg0,hg2]
    ·refine cN ?_
     try simp only [aB,aA]
     refine aK (SW_frz (p:=(21::q)) (id:=(15::q)) (cs:=[.vec (15::q) 3 x57.c_.bP.length,.list .self (x57.c_.dT.map (cI .i64)),.list .self (x57.c_.tT.map (cI .u32)),.list .self (x57.c_.pC.map (cI .u32)),.li x57.e_]) (off:=0) (sz:=3) (f:=aN.C) (l:=x57.c_.bP) (h0:=m.hp) (by simp only [go_sem,seval,aM,qV,Ch,dH,aW,aO,aV,dQ,f12,gD hfq,eU hfq,c10,f15,f16,f23,f24,c33,c59,e32,hg0,hg2]) rfl (by rfl) (by simp only [go_sem,seval,aM,qV,Ch,dH,aW,aO,aV,dQ,f12,gD hfq,eU hfq,c10,f15,f16,f23,f24,c33,c59,e32,hg0,hg2]) f12 (λx=>by rw [aN.C_eq];rfl) (by decide) ?_);refine aQ λK hK=>?_;simp only [go_sem,seval,Kn,Qe,aM,qV,Ch,dH,aW,aO,aV,dQ,gD hfq,eU hfq,c10,f15,f16,f23,f24,c33,c59,e32,hg0,hg2]
     first | apply hK | (refine ⟨by omega,?_⟩;apply hK)
     simp only [aB,aA];refine cR ?_
     try simp only [aU,aR]
     cases h;refine ⟨by simp,?_⟩;simp only [go_sem,seval,aW,aV,aO,aZ,aM,qV,Ch,dH,dQ,gD hfq,eU hfq,c10,f15,f16,f23,f24,c33,c59,e32,hg0,hg2]
def zP (f:cJ->Int->Option (aS × bH × Bool)):Prop:=∀a0 a1 r,f a0 a1=some r->∀(q:Pa) (m:M) (vs:List V),vs.map V.weak1=[.list .none (pM a0),.li a1]/\(m.hp=λ_=>none)/\m.gl 0=.eptr [(cA bX.C dP)] 0 0/\m.gl 1=.eptr [(cA bJ.C cL)] 0 0/\m.gl 2=.eptr [[.lw 0,.lw 4294967295]] 0 0/\m.gl 3=.eptr [(cA cS eZ)] 0 0/\m.gl 4=.eptr [(cA cS cE)] 0 0/\m.gl 6=.eptr [(cA (cA cS) cT)] 0 0->SC prog 23 vs q m (λv Y=>v=.tup [.agg ((aS.C r.1)),.agg ((bH.C r.2.1)),.lb r.2.2]/\Y=m)
theorem EJ (n:Nat):zP (mR n):=by
 rintro a0 a1 r h q m vs ⟨hv,hgh,hg0,hg1,hg2,hg3,hg4,hg6⟩;refine SC.wv hv (sL func23 call23 ntmps23 results23 ?_);unfold mR at h;refine aK (aQ λK hK=>?_);simp only [go_sem,seval,hgh,hg0,hg1,hg2,hg3,hg4,hg6];apply hK;simp only [aB,aA];refine aK (aK (aQ λK hK=>?_));simp only [go_sem,seval,hgh,hg0,hg1,hg2,hg3,hg4,hg6];apply hK;simp only [aB,aA];refine eV h (λc3 h=>?_) (λc3 h=>?_)
 ·refine aK (aQ λK hK=>?_);simp only [go_sem,seval,c3,hgh,hg0,hg1,hg2,hg3,hg4,hg6];apply hK;simp only [aB,aA];refine vK (id:=(0::q)) (off:=4) (cs:=[.ls [],.lb false,.li (0:Int),.li (0:Int),.nilv,.nilv]) (by simp only [go_sem,seval,c3,hgh,hg0,hg1,hg2,hg3,hg4,hg6]) rfl ?_;refine vK (id:=(0::q)) (off:=5) (cs:=[.ls [],.lb false,.li (0:Int),.li (0:Int),.list .none [],.nilv]) (by simp only [go_sem,seval,c3,hgh,hg0,hg1,hg2,hg3,hg4,hg6]) rfl ?_;refine cR ?_
  try simp only [aU,aR]
  cases h;exact jS
 ·refine cN ?_
  try simp only [aB,aA]
  refine aK ?_;obtain ⟨x4,h6,h⟩:=aI h;refine aQ λK hK=>?_;simp only [go_sem,seval,c3,hgh,hg0,hg1,hg2,hg3,hg4,hg6];refine SC.bA (Ke n a0 _ h6 _ _ _) ?_;simp only [go_sem,seval,c3,hgh,hg0,hg1,hg2,hg3,hg4,hg6];apply hK;simp only [aB,aA];refine aK (aK (aQ λK hK=>?_));simp only [go_sem,seval,c3,hgh,hg0,hg1,hg2,hg3,hg4,hg6];apply hK;simp only [aB,aA];refine eV h (λc7 h=>?_) (λc7 h=>?_)
  ·refine aK (aQ λK hK=>?_);simp only [go_sem,seval,c3,c7,hgh,hg0,hg1,hg2,hg3,hg4,hg6];apply hK;simp only [aB,aA];refine vK (id:=(0::q)) (off:=4) (cs:=[.ls [],.lb false,.li (0:Int),.li (0:Int),.nilv,.nilv]) (by simp only [go_sem,seval,c3,c7,hgh,hg0,hg1,hg2,hg3,hg4,hg6]) rfl ?_;refine vK (id:=(0::q)) (off:=5) (cs:=[.ls [],.lb false,.li (0:Int),.li (0:Int),.list .none [],.nilv]) (by simp only [go_sem,seval,c3,c7,hgh,hg0,hg1,hg2,hg3,hg4,hg6]) rfl ?_;refine cR ?_
   try simp only [aU,aR]
   cases h;exact jS
  ·refine cN ?_
   try simp only [aB,aA]
   refine aK ?_;obtain ⟨x8,h10,h⟩:=aI h;refine aQ λK hK=>?_;simp only [go_sem,seval,c3,c7,hgh,hg0,hg1,hg2,hg3,hg4,hg6];refine SC.bA (Mb n x4.1 a1 _ h10 _ _ _) ?_;simp only [go_sem,seval,c3,c7,hgh,hg0,hg1,hg2,hg3,hg4,hg6];apply hK;simp only [aB,aA];refine aK (aK (aQ λK hK=>?_));simp only [go_sem,seval,c3,c7,hgh,hg0,hg1,hg2,hg3,hg4,hg6];apply hK;simp only [aB,aA];refine eV h (λc11 h=>?_) (λc11 h=>?_)
   ·refine aK (aQ λK hK=>?_);simp only [go_sem,seval,c3,c7,c11,hgh,hg0,hg1,hg2,hg3,hg4,hg6];apply hK;simp only [aB,aA];refine vK (id:=(0::q)) (off:=4) (cs:=[.ls [],.lb false,.li (0:Int),.li (0:Int),.nilv,.nilv]) (by simp only [go_sem,seval,c3,c7,c11,hgh,hg0,hg1,hg2,hg3,hg4,hg6]) rfl ?_;refine vK (id:=(0::q)) (off:=5) (cs:=[.ls [],.lb false,.li (0:Int),.li (0:Int),.list .none [],.nilv]) (by simp only [go_sem,seval,c3,c7,c11,hgh,hg0,hg1,hg2,hg3,hg4,hg6]) rfl ?_;refine cR ?_
    try simp only [aU,aR]
    cases h;exact jS
   ·refine cN ?_
    try simp only [aB,aA]
    refine aK ?_;obtain ⟨x12,h14,h⟩:=aI h;refine aQ λK hK=>?_;simp only [go_sem,seval,c3,c7,c11,hgh,hg0,hg1,hg2,hg3,hg4,hg6];refine SC.bA (II n x8.1 _ h14 _ _ _) ?_;simp only [go_sem,seval,c3,c7,c11,hgh,hg0,hg1,hg2,hg3,hg4,hg6];apply hK;simp only [aB,aA];refine aK (Gg [(0,0),(4,0),(1,1),(5,0),(2,0),(3,0),(6,0)] 44 ?_);simp only [aB,aA];refine cR ?_
    try simp only [aU,aR]
    cases h;exact jS
instance:nK 23 (∀n,zP (mR n)):=⟨EJ⟩
def zW (f:eI->Int->Option (Int × eI)):Prop:=∀a0 a1 r,f a0 a1=some r->∀(q:Pa) (m:M) (vs:List V) (P0:Pa),vs.map V.weak1=[.ptr P0 0,.li a1]/\m.blk P0=some ((eI.C a0))->SC prog 48 vs q m (λv Y=>v=.li r.1/\Y=(m.set P0 ((eI.C r.2))))
theorem EL:zW (jI):=λa0 a1 r h q m vs P0 ⟨hv,w0⟩=>SC.wva hv (SC.ac w0 λ_ _ _=>cY func48 call48 ntmps48 results48 rfl (wk .z q m (jI.eq_1 _ _) h))
instance:nK 48 (zW jI):=⟨EL⟩
def Hh (f:aS->bH->Int->Option Int):Prop:=∀a0 a1 a2 r,f a0 a1 a2=some r->BH prog 49 [.agg ((aS.C a0)),.agg ((bH.C a1)),.li a2] (.li r)
theorem KF:Hh (yZ):=λa0 a1 a2 r h q m vs hv=>SC.wva hv (cY func49 call49 ntmps49 results49 rfl (wk (.j 2 2 23 [.v 13 Bool λy=>.lb y] [2,3,7] [3,7] [] none .z (.c .z (.c .z (.j 2 6 37 [.v 30 Bool λy=>.lb y] [7] [7] [] none .z .z)))) q m (yZ.eq_1 _ _ _) h))
instance:nK 49 (Hh yZ):=⟨KF⟩
def Hi (f:aS->Option Int):Prop:=∀a0 r,f a0=some r->BH prog 50 [.agg ((aS.C a0))] (.li r)
theorem KG:Hi (qT):=λa0 r h q m vs hv=>SC.wva hv (cY func50 call50 ntmps50 results50 rfl (wk .z q m (qT.eq_1 _) h))
instance:nK 50 (Hi qT):=⟨KG⟩
def Ir (f:aS->bH->Option (dF × Int)):Prop:=∀a0 a1 r,f a0 a1=some r->BH prog 24 [.agg ((aS.C a0)),.agg ((bH.C a1))] (.tup [.agg ((dF.C r.1)),.li r.2])
theorem Ma (n:Nat):Ir (zA n):=λa0 a1 r h q m vs hv=>SC.wva hv (cY func24 call24 ntmps24 results24 rfl (wk (.l [.v 14 Int λy=>.li y,.b 6 eI λy=>(eI.C y),.b 7 dF λy=>[.list .self (y.uI.map (cI .i64)),.list .self (y.sZ.map (cI .i64)),.li y.bR,.li y.FC]] [2,3,4,6,7,13] [2,3,4] [] none .z (.l [.v 32 Int λy=>.li y,.b 6 eI λy=>(eI.C y),.b 7 dF λy=>[.list .self (y.uI.map (cI .i64)),.list .self (y.sZ.map (cI .i64)),.li y.bR,.li y.FC]] [2,4,6,7,31] [2,4] [] none .z .z)) q m (zA.eq_1 _ _ _) h))
instance:nK 24 (∀n,Ir (zA n)):=⟨Ma⟩
def uP (f:Option Bool):Prop:=∀r,f=some r->∀(q:Pa) (m:M) (vs:List V),vs.map V.weak1=[]/\(m.hp=λ_=>none)/\m.gl 0=.eptr [(cA bX.C dP)] 0 0/\m.gl 1=.eptr [(cA bJ.C cL)] 0 0/\m.gl 2=.eptr [[.lw 0,.lw 4294967295]] 0 0/\m.gl 3=.eptr [(cA cS eZ)] 0 0/\m.gl 4=.eptr [(cA cS cE)] 0 0/\m.gl 6=.eptr [(cA (cA cS) cT)] 0 0->SC prog 22 vs q m (λv Y=>v=.lb r/\Y=m)
theorem BK (n:Nat):uP (lI n):=λr h q m vs ⟨hv,_,_,_,_,_,_,_⟩=>SC.wva hv (cY func22 call22 ntmps22 results22 rfl (wk (.j 2 3 72 [.v 0 Bool λy=>.lb y] [] [] [] none .z .z) q m (lI.eq_1 _) h))
instance:nK 22 (∀n,uP (lI n)):=⟨BK⟩
def vX (f:aS->bH->Int->Option Int):Prop:=∀a0 a1 a2 r,f a0 a1 a2=some r->BH prog 25 [.agg ((aS.C a0)),.agg ((bH.C a1)),.li a2] (.li r)
theorem CB:vX (mB):=λa0 a1 a2 r h q m vs hv=>SC.wva hv (cY func25 call25 ntmps25 results25 rfl (wk (.j 2 2 29 [.v 31 Bool λy=>.lb y] [2,3,7] [3,7] [] none .z (.c .z (.c .z (.j 2 6 41 [.v 43 Bool λy=>.lb y] [7] [7] [] none .z .z)))) q m (mB.eq_1 _ _ _) h))
instance:nK 25 (vX mB):=⟨CB⟩
def tN (f:cJ->Int->Option Bool):Prop:=∀a0 a1 r,f a0 a1=some r->∀(q:Pa) (m:M) (vs:List V),vs.map V.weak1=[.list .none (pM a0),.li a1]/\(m.hp=λ_=>none)/\m.gl 0=.eptr [(cA bX.C dP)] 0 0/\m.gl 1=.eptr [(cA bJ.C cL)] 0 0/\m.gl 2=.eptr [[.lw 0,.lw 4294967295]] 0 0/\m.gl 3=.eptr [(cA cS eZ)] 0 0/\m.gl 4=.eptr [(cA cS cE)] 0 0/\m.gl 6=.eptr [(cA (cA cS) cT)] 0 0->SC prog 6 vs q m (λv Y=>v=.lb r/\Y=m)
theorem Al (n:Nat):tN (lQ n):=λa0 a1 r h q m vs ⟨hv,_,_,_,_,_,_,_⟩=>SC.wva hv (cY func6 call6 ntmps6 results6 rfl (wk (.c .z (.c .z (.s 11 (.l [.v 10 Int λy=>.li y,.o 11 (List Int) λy=>(y.map (cI .i64)),.v 39 Int λy=>.li y] [5,6,8,9,38] [8,5,6] [] none (.c (.j 1 1 20 [.v 10 Int λy=>.li y,.o 11 (List Int) λy=>(y.map (cI .i64))] [5,6,8,9,38,39] [8,5,6] [] none .z .z) .z) (.c (.c (.c (.j 2 27 69 [.v 4 Bool λy=>.lb y] [] [] [] none .z .z) (.j 2 28 91 [.v 118 Bool λy=>.lb y] [8,11,14] [8] [] none .z (.c .z (.l [.v 121 Int λy=>.li y] [8,11,14,120] [8] [] none .z (.l [.v 138 Int λy=>.li y] [14,136,137] [] [] none .z .z))))) (.c (.j 2 27 66 [.v 4 Bool λy=>.lb y] [] [] [] none .z .z) (.j 2 28 88 [.v 118 Bool λy=>.lb y] [8,11,14] [8] [] none .z (.c .z (.l [.v 121 Int λy=>.li y] [8,11,14,120] [8] [] none .z (.l [.v 138 Int λy=>.li y] [14,136,137] [] [] none .z .z)))))) (.c (.c (.j 2 27 64 [.v 4 Bool λy=>.lb y] [] [] [] none .z .z) (.j 2 28 86 [.v 118 Bool λy=>.lb y] [8,11,14] [8] [] none .z (.c .z (.l [.v 121 Int λy=>.li y] [8,11,14,120] [8] [] none .z (.l [.v 138 Int λy=>.li y] [14,136,137] [] [] none .z .z))))) (.c (.j 2 27 61 [.v 4 Bool λy=>.lb y] [] [] [] none .z .z) (.j 2 28 83 [.v 118 Bool λy=>.lb y] [8,11,14] [8] [] none .z (.c .z (.l [.v 121 Int λy=>.li y] [8,11,14,120] [8] [] none .z (.l [.v 138 Int λy=>.li y] [14,136,137] [] [] none .z .z))))))))))) q m (lQ.eq_1 _ _ _) h))
