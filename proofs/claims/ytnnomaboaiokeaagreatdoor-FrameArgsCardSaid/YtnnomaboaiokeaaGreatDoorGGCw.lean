import Derived.Test.YtnnomaboaiokeaaGreatDoorGGFw
import Derived.Test.YtnnomaboaiokeaaGreatDoorGVt2
namespace Go.Proofs.YtnnomaboaiokeaaGreatDoor.Abs
open Go.RowKit Tryz
open IntKind (i64 u32 u64 u8)
set_option linter.all false
set_option maxRecDepth 10000
set_option maxHeartbeats 2000000
open Tryz
instance:Lj aN.C 3:=⟨λx=>by rw [aN.C_eq];rfl⟩
@[go_sem high] theorem eqT_78_neq {x y:Operand} {C:V->Prop} {a0 b0:Int} {a1 b1:Int}:rA prog .neq 78 x y (.agg [.li a0,.li a1]) (.agg [.li b0,.li b1]) C=C (.lb (!((a0 == b0) && (a1 == b1)))):=by
 have h:=Rl (P:=prog) (T:=78) (x:=x) (y:=y) (C:=C) (xs:=[.int .i64 a0,.int .i64 a1]) (ys:=[.int .i64 b0,.int .i64 b1]) (es:=[a0 == b0,a1 == b1]) (by kernel_rfl) (by kernel_rfl) (by kernel_rfl) (by kernel_rfl) (by kernel_rfl);simp only [gU,iU,List.all_cons,List.all_nil,jK,id,bs_beq] at h;exact h
def zY (f:(List aC)->Option Int):Prop:=∀a0 r,f a0=some r->BV prog 33 [.list .none (a0.map aC.C)] (.li r)
theorem Ik {jZ} (Ih:zY jZ) (n:Nat):zY (vN jZ n):=haveI:nO 33 (zY jZ):=⟨Ih⟩;λa0 r h q m vs hv=>SC.wva hv (dB func33 call33 ntmps33 results33 rfl (wk (.l [.v 3 Int λy=>.li y,.v 8 Int λy=>.li y] [6,7] [] [] none (.c (.j 1 1 21 [.v 3 Int λy=>.li y] [6,7,8] [] [] none .z .z) .z) .z) q m (vN.eq_1 _ _ _) h))
theorem FI:∀n,zY (wT n)
 | 0=>λ_ _ h=>dU h
 | n+1=>Ik (FI n) n
def yK (f:(List Int)->Int->Option (List Int)):Prop:=∀a0 a1 r,f a0 a1=some r->BV prog 34 [.list .none (a0.map (cI .u32)),.li a1] (.list .exact (r.map (cI .u32)))
theorem rY:yK tA:=λa0 a1 r h q m vs hv=>Rq h q m vs hv
def Lp (f:Int->Option aN):Prop:=∀a0 r,f a0=some r->BV prog 35 [.li a0] (.agg ((aN.C r)))
theorem JD:Lp (Ei):=λa0 r h q m vs hv=>SC.wva hv (dB func35 call35 ntmps35 results35 rfl (wk .z q m (Ei.eq_1 _) h))
instance:nO 35 (Lp Ei):=⟨JD⟩
def xH (f:aN->Option Int):Prop:=∀a0 r,f a0=some r->BV prog 21 [.agg ((aN.C a0))] (.li r)
theorem IQ {pQ} (IW:xH pQ) (n:Nat):xH (xG pQ n):=haveI:nO 21 (xH pQ):=⟨IW⟩;λa0 r h q m vs hv=>SC.wva hv (dB func21 call21 ntmps21 results21 rfl (wk (.l [.v 3 Int λy=>.li y,.v 9 Int λy=>.li y] [7,8] [] [] none .z .z) q m (xG.eq_1 _ _ _) h))
theorem Gs:∀n,xH (vY n)
 | 0=>λ_ _ h=>dU h
 | n+1=>IQ (Gs n) n
instance:nO 21 (∀n,xH (vY n)):=⟨Gs⟩
def oK (f:bH->aF->Option Int):Prop:=∀a0 a1 r,f a0 a1=some r->∀(q:Pa) (m:M) (vs:List V) (T0:V),vs.map V.weak1=[.agg ([T0,.list .none (a0.gW.map (cI .i64)),.list .none (a0.tT.map (cI .u32)),.list .none (a0.oO.map (cI .u32))]),.agg ((aF.C a1))]/\Rd m.hp T0 aN.C 3 a0.bP->SC prog 39 vs q m (λv Y=>v=.li r/\Y=m)
theorem Cv {fX} (Cu:oK fX) (n:Nat):oK (eL fX n):=haveI:nO 39 (oK fX):=⟨Cu⟩;λa0 a1 r h q m vs T0 ⟨hv,hrd⟩=>SC.wva hv (by rcases Rd.cases hrd with ⟨rfl,_⟩ | ⟨_,rfl,_⟩ <;> exact dB func39 call39 ntmps39 results39 rfl (wk (.c .z (.l [.v 5 Int λy=>.li y,.v 21 Int λy=>.li y] [2,19,20] [2] [] none .z .z)) q m (eL.eq_1 _ _ _ _) h))
theorem wU:∀n,oK (iC n)
 | 0=>λ_ _ _ h=>dU h
 | n+1=>Cv (wU n) n
instance:nO 39 (∀n,oK (iC n)):=⟨wU⟩
def Iw (f:aN->(List Int)->Option Int):Prop:=∀a0 a1 r,f a0 a1=some r->BV prog 42 [.agg ((aN.C a0)),.list .none (a1.map (cI .u32))] (.lw r)
theorem LX:Iw (wJ):=λa0 a1 r h q m vs hv=>SC.wva hv (dB func42 call42 ntmps42 results42 rfl (wk .z q m (wJ.eq_1 _ _) h))
instance:nO 42 (Iw wJ):=⟨LX⟩
def GX (f:Bool->Option Int):Prop:=∀a0 r,f a0=some r->BV prog 43 [.lb a0] (.lw r)
theorem KM:GX (uI):=λa0 r h q m vs hv=>SC.wva hv (dB func43 call43 ntmps43 results43 rfl (wk .z q m (uI.eq_1 _) h))
instance:nO 43 (GX uI):=⟨KM⟩
def JA (f:Int->Int->Option Int):Prop:=∀a0 a1 r,f a0 a1=some r->BV prog 44 [.li a0,.lw a1] (.lw r)
theorem Nj:JA (Aa):=λa0 a1 r h q m vs hv=>SC.wva hv (dB func44 call44 ntmps44 results44 rfl (wk .z q m (Aa.eq_1 _ _) h))
instance:nO 44 (JA Aa):=⟨Nj⟩
def vK (f:Int->Int->Option Int):Prop:=∀a0 a1 r,f a0 a1=some r->BV prog 102 [.lw a0,.li a1] (.lw r)
theorem Cq:vK (lR):=λa0 a1 r h q m vs hv=>SC.wva hv (dB func102 call102 ntmps102 results102 rfl (wk .z q m (lR.eq_1 _ _) h))
instance:nO 102 (vK lR):=⟨Cq⟩
def GY (f:Int->Int->Int->Option Int):Prop:=∀a0 a1 a2 r,f a0 a1 a2=some r->BV prog 73 [.li a0,.lw a1,.lw a2] (.lw r)
theorem KN:GY (tE):=λa0 a1 a2 r h q m vs hv=>SC.wva hv (dB func73 call73 ntmps73 results73 rfl (wk .z q m (tE.eq_1 _ _ _) h))
instance:nO 73 (GY tE):=⟨KN⟩
def Jy (f:Int->Int->Int->Option (Int × Bool)):Prop:=∀a0 a1 a2 r,f a0 a1 a2=some r->BV prog 45 [.li a0,.lw a1,.lw a2] (.tup [.lw r.1,.lb r.2])
theorem Nh:Jy (jX):=λa0 a1 a2 r h q m vs hv=>SC.wva hv (dB func45 call45 ntmps45 results45 rfl (wk .z q m (jX.eq_1 _ _ _) h))
instance:nO 45 (Jy jX):=⟨Nh⟩
def Ac (f:aN->(List Int)->Option (Int × Bool)):Prop:=∀a0 a1 r,f a0 a1=some r->BV prog 16 [.agg ((aN.C a0)),.list .none (a1.map (cI .u32))] (.tup [.lw r.1,.lb r.2])
theorem JC {tU} (Kj:Ac tU) (n:Nat):Ac (kZ tU n):=haveI:nO 16 (Ac tU):=⟨Kj⟩;λa0 a1 r h q m vs hv=>SC.wva hv (dB func16 call16 ntmps16 results16 rfl (wk (.c .z (.j 2 4 26 [.v 32 Bool λy=>.lb y] [1,2,6,7] [2] [] none .z .z)) q m (kZ.eq_1 _ _ _ _) h))
theorem Hb:∀n,Ac (mG n)
 | 0=>λ_ _ _ h=>dU h
 | n+1=>JC (Hb n) n
instance:nO 16 (∀n,Ac (mG n)):=⟨Hb⟩
def Lo (f:Int->Option aN):Prop:=∀a0 r,f a0=some r->BV prog 71 [.lw a0] (.agg ((aN.C r)))
theorem OP:Lo (FT):=λa0 r h q m vs hv=>SC.wva hv (dB func71 call71 ntmps71 results71 rfl (wk .z q m (FT.eq_1 _) h))
instance:nO 71 (Lo FT):=⟨OP⟩
def Ab (f:aN->Option aN):Prop:=∀a0 r,f a0=some r->BV prog 40 [.agg ((aN.C a0))] (.agg ((aN.C r)))
theorem JB {qV} (Ki:Ab qV) (n:Nat):Ab (nA qV n):=haveI:nO 40 (Ab qV):=⟨Ki⟩;λa0 r h q m vs hv=>SC.wva hv (dB func40 call40 ntmps40 results40 rfl (wk (.l [.v 4 Bool λy=>.lb y,.v 21 Int λy=>.li y,.b 3 aN λy=>[.li y.iD,.lw y.N_,.list .self (y.aP.map aN.C)]] [2,3,19,20] [2] [] none (.c (.j 2 8 23 [.v 4 Bool λy=>.lb y] [2,3,19,20,21] [2,3] [] none .z .z) .z) .z) q m (nA.eq_1 _ _ _) h))
theorem Ha:∀n,Ab (pE n)
 | 0=>λ_ _ h=>dU h
 | n+1=>JB (Ha n) n
instance:nO 40 (∀n,Ab (pE n)):=⟨Ha⟩
def IG (f:cJ->Option Int):Prop:=∀a0 r,f a0=some r->∀(q:Pa) (m:M) (vs:List V),vs.map V.weak1=[.ls a0]/\m.gl 0=.eptr [(cA bZ.C dR)] 0 0->SC prog 72 vs q m (λv Y=>v=.li r/\Y=m)
theorem Mq (n:Nat):IG (Bi n):=λa0 r h q m vs ⟨hv,_⟩=>SC.wva hv (dB func72 call72 ntmps72 results72 rfl (wk (.l [.v 6 Int λy=>.li y] [0,5] [] [] none .z .z) q m (Bi.eq_1 _ _) h))
instance:nO 72 (∀n,IG (Bi n)):=⟨Mq⟩
def pD (f:bH->aF->Option aN):Prop:=∀a0 a1 r,f a0 a1=some r->∀(q:Pa) (m:M) (vs:List V) (T0:V),vs.map V.weak1=[.agg ([T0,.list .none (a0.gW.map (cI .i64)),.list .none (a0.tT.map (cI .u32)),.list .none (a0.oO.map (cI .u32))]),.agg ((aF.C a1))]/\m.gl 0=.eptr [(cA bZ.C dR)] 0 0/\Rd m.hp T0 aN.C 3 a0.bP->SC prog 41 vs q m (λv Y=>v=.agg ((aN.C r))/\Y=m)
theorem Ds {gM} (Dr:pD gM) (n:Nat):pD (eX gM n):=haveI:nO 41 (pD gM):=⟨Dr⟩;λa0 a1 r h q m vs T0 ⟨hv,_,hrd⟩=>SC.wva hv (by rcases Rd.cases hrd with ⟨rfl,_⟩ | ⟨_,rfl,_⟩ <;> exact dB func41 call41 ntmps41 results41 rfl (wk (.c .z (.c .z (.l [.v 30 Int λy=>.li y,.b 5 aN λy=>[.li y.iD,.lw y.N_,.list .self (y.aP.map aN.C)]] [2,4,5,28,29] [2,4] [] none .z .z))) q m (eX.eq_1 _ _ _ _) h))
theorem yD:∀n,pD (iQ n)
 | 0=>λ_ _ _ h=>dU h
 | n+1=>Ds (yD n) n
instance:nO 41 (∀n,pD (iQ n)):=⟨yD⟩
def BP (f:bH->aF->Option (aN × Int)):Prop:=∀a0 a1 r,f a0 a1=some r->∀(q:Pa) (m:M) (vs:List V) (T0:V),vs.map V.weak1=[.agg ([T0,.list .none (a0.gW.map (cI .i64)),.list .none (a0.tT.map (cI .u32)),.list .none (a0.oO.map (cI .u32))]),.agg ((aF.C a1))]/\m.gl 0=.eptr [(cA bZ.C dR)] 0 0/\Rd m.hp T0 aN.C 3 a0.bP->SC prog 15 vs q m (λv Y=>v=.tup [.agg ((aN.C r.1)),.li r.2]/\Y=m)
theorem Gm (n:Nat):BP (pF n):=λa0 a1 r h q m vs T0 ⟨hv,_,hrd⟩=>SC.wva hv (by rcases Rd.cases hrd with ⟨rfl,_⟩ | ⟨_,rfl,_⟩ <;> exact dB func15 call15 ntmps15 results15 rfl (wk .z q m (pF.eq_1 _ _ _) h))
instance:nO 15 (∀n,BP (pF n)):=⟨Gm⟩
def xN (f:aT->aF->Option (aN × aT)):Prop:=∀a0 a1 r,f a0 a1=some r->∀(q:Pa) (m:M) (vs:List V) (P0:Pa) (W:Pa),vs.map V.weak1=[.ptr P0 0,.agg ((aF.C a1))]/\m.blk P0=some ([.vec W 3 a0.c_.bP.length,.list .self (a0.c_.gW.map (cI .i64)),.list .self (a0.c_.tT.map (cI .u32)),.list .self (a0.c_.oO.map (cI .u32)),.li a0.e_])/\m.gl 0=.eptr [(cA bZ.C dR)] 0 0/\m.hp W=some (a0.c_.bP.map aN.C).flatten->SC prog 65 vs q m (λv Y=>∃vr,v=.agg ((aN.C r.1))/\Y=m.ck P0 ([.vec W 3 r.2.c_.bP.length,.list .self (r.2.c_.gW.map (cI .i64)),.list .self (r.2.c_.tT.map (cI .u32)),.list .self (r.2.c_.oO.map (cI .u32)),.li r.2.e_]) (oW m.hp W (r.2.c_.bP.map aN.C).flatten) vr)
theorem DG (n:Nat):xN (lF n):=λa0 a1 r h q m vs P0 W ⟨hv,w0,_,hkW⟩=>SC.wva hv (SC.ac w0 λ_ _ _=>have hW0:=FY hkW;dB func65 call65 ntmps65 results65 rfl (wk .z q m (lF.eq_1 _ _ _) h))
instance:nO 65 (∀n,xN (lF n)):=⟨DG⟩
def oD (f:aT->aF->Option aT):Prop:=∀a0 a1 r,f a0 a1=some r->∀(q:Pa) (m:M) (vs:List V) (P0:Pa) (W:Pa),vs.map V.weak1=[.ptr P0 0,.agg ((aF.C a1))]/\m.blk P0=some ([.vec W 3 a0.c_.bP.length,.list .self (a0.c_.gW.map (cI .i64)),.list .self (a0.c_.tT.map (cI .u32)),.list .self (a0.c_.oO.map (cI .u32)),.li a0.e_])/\m.gl 0=.eptr [(cA bZ.C dR)] 0 0/\m.hp W=some (a0.c_.bP.map aN.C).flatten->SC prog 64 vs q m (λv Y=>∃vr,v=.tup []/\Y=m.ck P0 ([.vec W 3 r.c_.bP.length,.list .self (r.c_.gW.map (cI .i64)),.list .self (r.c_.tT.map (cI .u32)),.list .self (r.c_.oO.map (cI .u32)),.li r.e_]) (oW m.hp W (r.c_.bP.map aN.C).flatten) vr)
theorem Cd {fW} (Cr:oD fW) (n:Nat):oD (oC fW n):=haveI:nO 64 (oD fW):=⟨Cr⟩;λa0 a1 r h q m vs P0 W ⟨hv,w0,_,hkW⟩=>SC.wva hv (SC.ac w0 λ_ _ _=>have hW0:=FY hkW;dB func64 call64 ntmps64 results64 rfl (wk (.l [.v 11 Int λy=>.li y,.w 0 aT (λy=>[.vec W 3 y.c_.bP.length,.list .self (y.c_.gW.map (cI .i64)),.list .self (y.c_.tT.map (cI .u32)),.list .self (y.c_.oO.map (cI .u32)),.li y.e_]) λy h=>oW h W (y.c_.bP.map aN.C).flatten] [0,3,9,10] [3] [] (some P0) .z (.j 2 6 19 [.v 31 Bool λy=>.lb y] [0,3] [0,3] [] (some P0) .z (.c (.l [.v 35 Int λy=>.li y,.w 0 aT (λy=>[.vec W 3 y.c_.bP.length,.list .self (y.c_.gW.map (cI .i64)),.list .self (y.c_.tT.map (cI .u32)),.list .self (y.c_.oO.map (cI .u32)),.li y.e_]) λy h=>oW h W (y.c_.bP.map aN.C).flatten] [0,33,34] [] [] (some P0) .z .z) .z))) q m (oC.eq_1 _ _ _ _) h))
theorem wM:∀n,oD (lH n)
 | 0=>λ_ _ _ h=>dU h
 | n+1=>Cd (wM n) n
instance:nO 64 (∀n,oD (lH n)):=⟨wM⟩
def Ln (f:(List Int)->Int->Int->Option Int):Prop:=∀a0 a1 a2 r,f a0 a1 a2=some r->BV prog 138 [.list .none (a0.map (cI .u32)),.lw a1,.lw a2] (.lw r)
theorem OO:Ln (Eh):=λa0 a1 a2 r h q m vs hv=>SC.wva hv (dB func138 call138 ntmps138 results138 rfl (wk .z q m (Eh.eq_1 _ _ _) h))
instance:nO 138 (Ln Eh):=⟨OO⟩
def Cz (f:Int->Int->Int->Option (Int × Int)):Prop:=∀a0 a1 a2 r,f a0 a1 a2=some r->BV prog 194 [.lw a0,.lw a1,.lw a2] (.tup [.lw r.1,.lw r.2])
theorem GJ:Cz (qH):=λa0 a1 a2 r h q m vs hv=>SC.wva hv (dB func194 call194 ntmps194 results194 rfl (wk .z q m (qH.eq_1 _ _ _) h))
instance:nO 194 (Cz qH):=⟨GJ⟩
def Jz (f:bX->bX->Option bX):Prop:=∀a0 a1 r,f a0 a1=some r->∀(q:Pa) (m:M) (vs:List V),vs.map V.weak1=[.agg ((bX.C a0)),.agg ((bX.C a1))]/\m.gl 2=.eptr [[.lw 0,.lw 4294967295]] 0 0->SC prog 170 vs q m (λv Y=>v=.agg ((bX.C r))/\Y=m)
theorem Ni:Jz (Fk):=λa0 a1 r h q m vs ⟨hv,_⟩=>SC.wva hv (dB func170 call170 ntmps170 results170 rfl (wk .z q m (Fk.eq_1 _ _) h))
instance:nO 170 (Jz Fk):=⟨Ni⟩
def Cy (f:Int->Int->Option (Int × Int)):Prop:=∀a0 a1 r,f a0 a1=some r->BV prog 97 [.lw a0,.lw a1] (.tup [.lw r.1,.lw r.2])
theorem GI:Cy (rW):=λa0 a1 r h q m vs hv=>SC.wva hv (dB func97 call97 ntmps97 results97 rfl (wk .z q m (rW.eq_1 _ _) h))
instance:nO 97 (Cy rW):=⟨GI⟩
def Fl (f:bX->bX->Option bX):Prop:=∀a0 a1 r,f a0 a1=some r->∀(q:Pa) (m:M) (vs:List V),vs.map V.weak1=[.agg ((bX.C a0)),.agg ((bX.C a1))]/\m.gl 2=.eptr [[.lw 0,.lw 4294967295]] 0 0->SC prog 171 vs q m (λv Y=>v=.agg ((bX.C r))/\Y=m)
theorem IP:Fl (xF):=λa0 a1 r h q m vs ⟨hv,_⟩=>SC.wva hv (dB func171 call171 ntmps171 results171 rfl (wk .z q m (xF.eq_1 _ _) h))
instance:nO 171 (Fl xF):=⟨IP⟩
def Gq (f:Int->bX->bX->Option bX):Prop:=∀a0 a1 a2 r,f a0 a1 a2=some r->∀(q:Pa) (m:M) (vs:List V),vs.map V.weak1=[.li a0,.agg ((bX.C a1)),.agg ((bX.C a2))]/\m.gl 2=.eptr [[.lw 0,.lw 4294967295]] 0 0->SC prog 139 vs q m (λv Y=>v=.agg ((bX.C r))/\Y=m)
theorem Jx:Gq (wI):=λa0 a1 a2 r h q m vs ⟨hv,_⟩=>SC.wva hv (dB func139 call139 ntmps139 results139 rfl (wk .z q m (wI.eq_1 _ _ _) h))
instance:nO 139 (Gq wI):=⟨Jx⟩
def xE (f:aN->(List Int)->(List Int)->Option bX):Prop:=∀a0 a1 a2 r,f a0 a1 a2=some r->∀(q:Pa) (m:M) (vs:List V),vs.map V.weak1=[.agg ((aN.C a0)),.list .none (a1.map (cI .u32)),.list .none (a2.map (cI .u32))]/\m.gl 2=.eptr [[.lw 0,.lw 4294967295]] 0 0->SC prog 103 vs q m (λv Y=>v=.agg ((bX.C r))/\Y=m)
theorem IO {sS} (IV:xE sS) (n:Nat):xE (nR sS n):=haveI:nO 103 (xE sS):=⟨IV⟩;λa0 a1 a2 r h q m vs ⟨hv,_⟩=>SC.wva hv (dB func103 call103 ntmps103 results103 rfl (wk .z q m (nR.eq_1 _ _ _ _ _) h))
theorem Gr:∀n,xE (tD n)
 | 0=>λ_ _ _ _ h=>dU h
 | n+1=>IO (Gr n) n
instance:nO 103 (∀n,xE (tD n)):=⟨Gr⟩
def GZ (f:aN->(List Int)->(List Int)->Option (Int × Int)):Prop:=∀a0 a1 a2 r,f a0 a1 a2=some r->∀(q:Pa) (m:M) (vs:List V),vs.map V.weak1=[.agg ((aN.C a0)),.list .none (a1.map (cI .u32)),.list .none (a2.map (cI .u32))]/\m.gl 2=.eptr [[.lw 0,.lw 4294967295]] 0 0->SC prog 74 vs q m (λv Y=>v=.tup [.lw r.1,.lw r.2]/\Y=m)
theorem KO (n:Nat):GZ (Bp n):=λa0 a1 a2 r h q m vs ⟨hv,_⟩=>SC.wva hv (dB func74 call74 ntmps74 results74 rfl (wk .z q m (Bp.eq_1 _ _ _ _) h))
instance:nO 74 (∀n,GZ (Bp n)):=⟨KO⟩
def At (f:bH->aF->Option (Int × Int)):Prop:=∀a0 a1 r,f a0 a1=some r->∀(q:Pa) (m:M) (vs:List V) (T0:V),vs.map V.weak1=[.agg ([T0,.list .none (a0.gW.map (cI .i64)),.list .none (a0.tT.map (cI .u32)),.list .none (a0.oO.map (cI .u32))]),.agg ((aF.C a1))]/\m.gl 0=.eptr [(cA bZ.C dR)] 0 0/\m.gl 2=.eptr [[.lw 0,.lw 4294967295]] 0 0/\Rd m.hp T0 aN.C 3 a0.bP->SC prog 46 vs q m (λv Y=>v=.tup [.lw r.1,.lw r.2]/\Y=m)
theorem Fg (n:Nat):At (gI n):=λa0 a1 r h q m vs T0 ⟨hv,_,_,hrd⟩=>SC.wva hv (by rcases Rd.cases hrd with ⟨rfl,_⟩ | ⟨_,rfl,_⟩ <;> exact dB func46 call46 ntmps46 results46 rfl (wk .z q m (gI.eq_1 _ _ _) h))
instance:nO 46 (∀n,At (gI n)):=⟨Fg⟩
def xO (f:aT->aC->Option aT):Prop:=∀a0 a1 r,f a0 a1=some r->∀(q:Pa) (m:M) (vs:List V) (P0:Pa) (W:Pa),vs.map V.weak1=[.ptr P0 0,.agg ((aC.C a1))]/\m.blk P0=some ([.vec W 3 a0.c_.bP.length,.list .self (a0.c_.gW.map (cI .i64)),.list .self (a0.c_.tT.map (cI .u32)),.list .self (a0.c_.oO.map (cI .u32)),.li a0.e_])/\m.gl 0=.eptr [(cA bZ.C dR)] 0 0/\m.gl 2=.eptr [[.lw 0,.lw 4294967295]] 0 0/\m.hp W=some (a0.c_.bP.map aN.C).flatten->SC prog 66 vs q m (λv Y=>∃vr,v=.tup []/\Y=m.ck P0 ([.vec W 3 r.c_.bP.length,.list .self (r.c_.gW.map (cI .i64)),.list .self (r.c_.tT.map (cI .u32)),.list .self (r.c_.oO.map (cI .u32)),.li r.e_]) (oW m.hp W (r.c_.bP.map aN.C).flatten) vr)
theorem DH (n:Nat):xO (lG n):=λa0 a1 r h q m vs P0 W ⟨hv,w0,_,_,hkW⟩=>SC.wva hv (SC.ac w0 λ_ _ _=>have hW0:=FY hkW;dB func66 call66 ntmps66 results66 rfl (wk .z q m (lG.eq_1 _ _ _) h))
instance:nO 66 (∀n,xO (lG n)):=⟨DH⟩
def qB (f:aT->(List aC)->Option aT):Prop:=∀a0 a1 r,f a0 a1=some r->∀(q:Pa) (m:M) (vs:List V) (P0:Pa) (W:Pa),vs.map V.weak1=[.ptr P0 0,.list .none (a1.map aC.C)]/\m.blk P0=some ([.vec W 3 a0.c_.bP.length,.list .self (a0.c_.gW.map (cI .i64)),.list .self (a0.c_.tT.map (cI .u32)),.list .self (a0.c_.oO.map (cI .u32)),.li a0.e_])/\m.gl 0=.eptr [(cA bZ.C dR)] 0 0/\m.gl 2=.eptr [[.lw 0,.lw 4294967295]] 0 0/\m.hp W=some (a0.c_.bP.map aN.C).flatten->SC prog 36 vs q m (λv Y=>∃vr,v=.tup []/\Y=m.ck P0 ([.vec W 3 r.c_.bP.length,.list .self (r.c_.gW.map (cI .i64)),.list .self (r.c_.tT.map (cI .u32)),.list .self (r.c_.oO.map (cI .u32)),.li r.e_]) (oW m.hp W (r.c_.bP.map aN.C).flatten) vr)
theorem Bx {dN} (BL:qB dN) (n:Nat):qB (nH dN n):=haveI:nO 36 (qB dN):=⟨BL⟩;λa0 a1 r h q m vs P0 W ⟨hv,w0,_,_,hkW⟩=>SC.wva hv (SC.ac w0 λ_ _ _=>have hW0:=FY hkW;dB func36 call36 ntmps36 results36 rfl (wk (.l [.v 11 Int λy=>.li y,.w 0 aT (λy=>[.vec W 3 y.c_.bP.length,.list .self (y.c_.gW.map (cI .i64)),.list .self (y.c_.tT.map (cI .u32)),.list .self (y.c_.oO.map (cI .u32)),.li y.e_]) λy h=>oW h W (y.c_.bP.map aN.C).flatten] [0,9,10] [] [] (some P0) (.c (.j 11 1 36 [.w 0 aT (λy=>[.vec W 3 y.c_.bP.length,.list .self (y.c_.gW.map (cI .i64)),.list .self (y.c_.tT.map (cI .u32)),.list .self (y.c_.oO.map (cI .u32)),.li y.e_]) λy h=>oW h W (y.c_.bP.map aN.C).flatten] [0,9,10,11] [] [] (some P0) (.l [.v 18 Int λy=>.li y,.w 0 aT (λy=>[.vec W 3 y.c_.bP.length,.list .self (y.c_.gW.map (cI .i64)),.list .self (y.c_.tT.map (cI .u32)),.list .self (y.c_.oO.map (cI .u32)),.li y.e_]) λy h=>oW h W (y.c_.bP.map aN.C).flatten] [0,5,9,10,11,16,17] [5] [] (some P0) (.c (.j 1 3 50 [.w 0 aT (λy=>[.vec W 3 y.c_.bP.length,.list .self (y.c_.gW.map (cI .i64)),.list .self (y.c_.tT.map (cI .u32)),.list .self (y.c_.oO.map (cI .u32)),.li y.e_]) λy h=>oW h W (y.c_.bP.map aN.C).flatten] [0,5,9,10,11,16,17,18] [5] [] (some P0) (.j 2 7 32 [.v 47 Bool λy=>.lb y] [0,5,7,9,10,11,16,17,18] [0,5,7] [] (some P0) .z .z) .z) .z) (.j 2 12 20 [.v 73 Bool λy=>.lb y] [0,5,9,10,11] [0,5] [] (some P0) .z .z)) .z) .z) .z) q m (nH.eq_1 _ _ _ _) h))
theorem vG:∀n,qB (fO n)
 | 0=>λ_ _ _ h=>dU h
 | n+1=>Bx (vG n) n
def Kv (f:aR->Option (bH × Int)):Prop:=∀a0 r,f a0=some r->∀(q:Pa) (m:M) (vs:List V),vs.map V.weak1=[.agg ((aR.C a0))]/\m.gl 0=.eptr [(cA bZ.C dR)] 0 0/\m.gl 2=.eptr [[.lw 0,.lw 4294967295]] 0 0->SC prog 11 vs q m (λv Y=>v=.tup [.agg ((bH.C r.1)),.li r.2]/\Y=m)
theorem IZ (n:Nat):Kv (yE n):=by
 rintro a0 r h q m vs ⟨hv,hg0,hg2⟩;refine SC.wv hv ?_;refine SC.freshH λhfq=>?_;refine SC.hpq ?_;refine sY func11 call11 ntmps11 results11 ?_;unfold yE at h;refine aK (aQ λK hK=>?_);have K1:=qJ2 hg0 hg2;simp only [go_sem,seval,aM,rH,Cx,dJ,aX,aO,aV,dS,gC hfq,eT hfq,K1]
 first | apply hK | (refine ⟨by omega,?_⟩;apply hK)
 simp only [aB,aA];refine aK (aK ?_);obtain ⟨y3,j3,h⟩:=aI h;refine yI 12 (λX Y=>X 1=.ptr (0::q) 0/\X 2=.ptr (1::q) 0/\X 15=.lb y3/\Y.blk (0::q)=some ((aR.C a0))/\Y.blk (1::q)=some ([.list .self ([].map aN.C),.list .self ([].map (cI .i64)),.list .self ([].map (cI .u32)),.list .self ([].map (cI .u32))])/\Y.gl=m.gl/\Y.hp=m.hp/\m.back q Y=m) ?_ ?_
 ·rcases xV j3 with ⟨c4,j3⟩ | ⟨c4,j3⟩
  ·refine aQ λK hK=>?_;simp only [go_sem,seval,aM,rH,Cx,dJ,aX,aO,aV,dS,gC hfq,eT hfq,c4,K1]
   first | apply hK | (refine ⟨by omega,?_⟩;apply hK)
   simp only [aB,aA];obtain rfl:=bV j3;refine ⟨by decide,?_⟩;simp only [go_sem,seval,aX,aV,aO,aZ,aM,rH,Cx,dJ,dS,gC hfq,eT hfq,c4,K1]
  ·obtain ⟨x5,h6,j3⟩:=aI j3;refine aQ λK hK=>?_;simp only [go_sem,seval,aM,rH,Cx,dJ,aX,aO,aV,dS,gC hfq,eT hfq,c4,K1];refine SC.by_ (FI n a0.bY _ h6 _ _ _ (by simp only [go_sem,seval,aM,rH,Cx,dJ,aX,aO,aV,dS,gC hfq,eT hfq,c4,K1])) ?_;simp only [go_sem,seval,aM,rH,Cx,dJ,aX,aO,aV,dS,gC hfq,eT hfq,c4,K1]
   first | apply hK | (refine ⟨by omega,?_⟩;apply hK)
   simp only [aB,aA];obtain rfl:=bV j3;refine ⟨by decide,?_⟩;simp only [go_sem,seval,aX,aV,aO,aZ,aM,rH,Cx,dJ,dS,gC hfq,eT hfq,c4,K1]
 ·intro E7 m8 e9 _;simp only [aB,aA];refine eU h (λc10 h=>?_) (λc10 h=>?_)
  ·refine aK (aQ λK hK=>?_);simp only [go_sem,seval,aM,rH,Cx,dJ,aX,aO,aV,dS,gC hfq,eT hfq,c10,e9,K1]
   first | apply hK | (refine ⟨by omega,?_⟩;apply hK)
   simp only [aB,aA];refine cV ?_
   try simp only [aU,aS]
   cases h;refine ⟨by simp,?_⟩;simp only [go_sem,seval,aX,aV,aO,aZ,aM,rH,Cx,dJ,dS,gC hfq,eT hfq,c10,e9,K1]
  ·refine cO ?_
   try simp only [aB,aA]
   refine aK ?_;obtain ⟨x11,h14,h⟩:=aI h;obtain ⟨⟨f15,f16⟩,h⟩:=cH h;refine wX λf17=>?_;have f12:m.hp (15::q)=none:=by have:=f17 15 (by omega);simpa only [go_sem,↓reduceIte,Nat.reduceEqDiff,Nat.reduceAdd,Nat.reduceMul,Nat.reduceLT,Nat.reduceLeDiff,reduceCtorEq,Int.reduceLE,Int.reduceLT,Int.reduceToNat,UInt8.reduceToNat,gC hfq,eT hfq,c10,f15,f16,e9,K1] using this
   refine SW_px2 [0,1,3,7,0,0,32,127,255,511,1023] [0,1,2,4,5] 3 6 [7,8,9,10] rfl (by kernel_rfl) λK hK=>?_;have g18_3:List.filter (λj=>!sK [0,1,3,7,0,0,32,127,255,511,1023] j 3) [0,1,2,4,5].reverse=[5,4]:=by decide
   have g19_6:List.filter (λj=>!sK [0,1,3,7,0,0,32,127,255,511,1023] j 6) [5,4]=[4]:=by decide
   have g20_9:List.filter (λj=>!sK [0,1,3,7,0,0,32,127,255,511,1023] j 9) [8,7,4]=[]:=by decide
   have g21_6:List.filter (λj=>!sK [0,1,3,7,0,0,32,127,255,511,1023] j 6) [0,1,2,4,5].reverse=[4,2,1,0]:=by decide
   have g22_3:List.filter (λj=>!sK [0,1,3,7,0,0,32,127,255,511,1023] j 3) [4,2,1,0]=[4]:=by decide
   have K2:=qJ6 K1 f12 c10 f15 f16 e9;simp only [go_sem,seval,KG,QF,Dv,g18_3,g19_6,g20_9,g21_6,g22_3,aM,rH,Cx,dJ,aX,aO,aV,dS,gC hfq,eT hfq,K2];refine Tk (T:=?Tw) ?kw (λkey=>SC.by_ (rY [(4294967295:Int)] (4:Int) _ h14 _ _ _ (by simp only [go_sem,seval,aM,rH,Cx,dJ,aX,aO,aV,dS,gC hfq,eT hfq,K2])) ?aw) (λkey=>SC.by_ (rY [(4294967295:Int)] (4:Int) _ h14 _ _ _ (by simp only [go_sem,seval,aM,rH,Cx,dJ,aX,aO,aV,dS,gC hfq,eT hfq,K2])) ?bw)
   case aw=>simp only [go_sem,seval,KG,QF,Dv,g18_3,g19_6,g20_9,g21_6,g22_3,aM,rH,Cx,dJ,aX,aO,aV,dS,gC hfq,eT hfq,K2];exact key
   case bw=>simp only [go_sem,seval,Int.reduceToNat,UInt8.reduceToNat,KG,QF,Dv,g18_3,g19_6,g20_9,g21_6,g22_3,updC (show (23=20)=False by simp),aM,rH,Cx,dJ,aX,aO,aV,dS,gC hfq,eT hfq,K2];exact key
   first | apply hK | (refine ⟨by omega,?_⟩;apply hK)
   simp only [aB,aA];refine SW_hnil (id:=(15::q)) (vs:=(List.replicate a0.aW.length [.li 0,.lw 0,.nilv]).flatten) (vs':=((List.replicate a0.aW.length aN.Z).map aN.C).flatten) (by simp only [go_sem,seval,aM,rH,Cx,dJ,aX,aO,aV,dS,gC hfq,eT hfq,K2]) (yZ.mk (f:=aN.C) (z:=aN.Z) (by rw [show aN.C aN.Z=[.li 0,.lw 0,.list .none []] from by rw [aN.C_eq];rfl];exact ⟨.inl rfl,.inl rfl,.inr ⟨rfl,rfl⟩,trivial⟩) a0.aW.length) ?_;refine aK (aK ?_);obtain ⟨⟨f23,f24⟩,h⟩:=cH h;refine aQ λK hK=>?_;simp only [go_sem,seval,KG,QF,aM,rH,Cx,dJ,aX,aO,aV,dS,gC hfq,eT hfq,f23,f24,K2]
   first | apply hK | (refine ⟨by omega,?_⟩;apply hK)
   simp only [aB,aA];refine dO ?_;obtain ⟨y28,j28,h⟩:=aI h;refine wY (λc X Y=>∃v26 v27,rX a0 c v26 v27=some y28/\X 1=.ptr (0::q) 0/\X 2=.ptr (1::q) 0/\X 4=.ptr (21::q) 0/\X 31=.list .none ((a0.aW.take a0.bC.toNat).map aL.C)/\X 32=.li ((a0.aW.take a0.bC.toNat).length:Int)/\X 33=.li v26/\Y.blk (21::q)=some ([.vec (15::q) 3 v27.c_.bP.length,.list .self (v27.c_.gW.map (cI .i64)),.list .self (v27.c_.tT.map (cI .u32)),.list .self (v27.c_.oO.map (cI .u32)),.li v27.e_])/\Y.blk (0::q)=some ((aR.C a0))/\Y.blk (1::q)=some ([.list .self ([].map aN.C),.list .self ([].map (cI .i64)),.list .self ([].map (cI .u32)),.list .self ([].map (cI .u32))])/\Y.gl=m.gl/\Y.hp=oW m.hp (15::q) (v27.c_.bP.map aN.C).flatten/\(m.back q Y).seth m.hp=m) n ⟨(0:Int),(aT.mk (bH.mk (List.replicate a0.aW.length aN.Z) [] [(0:Int),(0:Int),(0:Int),(0:Int)] x11) (0:Int)),j28,?_⟩ ?_
   ·simp only [go_sem,seval,aX,aV,aO,aZ,aM,rH,Cx,dJ,dS,gC hfq,eT hfq,f23,f24,K2]
   rintro i25 c29 E30 m31 ⟨v26,v27,j28,e32⟩ _
   rcases c29 with _ | c29
   ·cases j28
   rw [rX] at j28;refine aK (aQ λK hK=>?_);have K3:=qJ8 K1 f12 c10 f15 f16 f23 f24 e32;simp only [go_sem,seval,KG,QF,aM,rH,Cx,dJ,aX,aO,aV,dS,gC hfq,eT hfq,K3]
   first | apply hK | (refine ⟨by omega,?_⟩;apply hK)
   simp only [aB,aA];refine aK (eU j28 (λc33 j28=>?_) (λc33 j28=>?_))
   ·refine cO ?_
    try simp only [aB,aA]
    refine aK ?_;obtain ⟨y34,j34,j28⟩:=aI j28;refine yI 20 (λX Y=>X 1=.ptr (0::q) 0/\X 2=.ptr (1::q) 0/\X 4=.ptr (21::q) 0/\X 31=.list .none ((a0.aW.take a0.bC.toNat).map aL.C)/\X 32=.li ((a0.aW.take a0.bC.toNat).length:Int)/\X 33=.li v26/\Y.blk (21::q)=some ([.vec (15::q) 3 y34.c_.bP.length,.list .self (y34.c_.gW.map (cI .i64)),.list .self (y34.c_.tT.map (cI .u32)),.list .self (y34.c_.oO.map (cI .u32)),.li y34.e_])/\Y.blk (0::q)=some ((aR.C a0))/\Y.blk (1::q)=some ([.list .self ([].map aN.C),.list .self ([].map (cI .i64)),.list .self ([].map (cI .u32)),.list .self ([].map (cI .u32))])/\Y.gl=m.gl/\Y.hp=oW m.hp (15::q) (y34.c_.bP.map aN.C).flatten/\(m.back q Y).seth m.hp=m) ?_ ?_
    ·refine dO (aK ?_);obtain ⟨x35,h40,j34⟩:=aI j34;obtain ⟨f37,f38,f39⟩:=cB h40;refine aQ λK hK=>?_;have K4:=qJ5 K3 c33 f37 f38 f39;simp only [go_sem,seval,KG,QF,aM,rH,Cx,dJ,aX,aO,aV,dS,gC hfq,eT hfq,K4]
     first | apply hK | (refine ⟨by omega,?_⟩;apply hK)
     simp only [aB,aA];refine aK (aQ λK hK=>?_);simp only [go_sem,seval,KG,QF,aM,rH,Cx,dJ,aX,aO,aV,dS,gC hfq,eT hfq,K4]
     first | apply hK | (refine ⟨by omega,?_⟩;apply hK)
     simp only [aB,aA];refine eU j34 (λc41 j34=>?_) (λc41 j34=>?_)
     ·obtain ⟨x42,h44,j34⟩:=aI j34;obtain ⟨x43,h48,j34⟩:=aI j34;obtain ⟨f45,f46,f47⟩:=cB h48;obtain ⟨w49,d50⟩:=NV (f:=aN.C) (sz:=3) (λx=>by rw [aN.C_eq];rfl) f47;simp only [go_sem,seval] at d50;have f51:(3<=w49.length+1+1+1)=True:=eq_true (by omega);have d52:=NW (f:=aN.C) (sz:=3) (λx=>by rw [aN.C_eq];rfl) (l:=v27.c_.bP) (i:=v26.toNat) (by have:=f45;have:=f46;omega) x42;simp only [go_sem,seval] at d52;have f53:=flat_le (f:=aN.C) (sz:=3) (l:=v27.c_.bP) (λx=>by rw [aN.C_eq];rfl) (i:=v26.toNat) (by have:=f45;have:=f46;omega);refine mT [(6,0),(7,0),(0,0),(1,0),(2,0),(3,0),(4,1),(5,0),(8,0),(9,0)] 20 λK hK=>?_;have K5:=qJ9 K4 c41 f45 f46 f47 d50 f51 d52 f53;simp only [go_sem,seval,KG,QF,aM,rH,Cx,dJ,aX,aO,aV,dS,gC hfq,eT hfq,K5];refine gR (JD v26 _ h44 _ _ _ (by simp only [go_sem,seval,aM,rH,Cx,dJ,aX,aO,aV,dS,gC hfq,eT hfq,K5])) rfl ?_;simp only [go_sem,seval,aM,rH,Cx,dJ,aX,aO,aV,dS,gC hfq,eT hfq,K5]
      first | apply hK | (refine ⟨by omega,?_⟩;apply hK)
      simp only [aB,aA];obtain rfl:=bV j34;refine ⟨by decide,?_⟩;simp only [go_sem,seval,aX,aV,aO,aZ,aM,rH,Cx,dJ,dS,gC hfq,eT hfq,K5]
     ·refine cO ?_
      try simp only [aB,aA]
      obtain rfl:=bV j34;refine ⟨by decide,?_⟩;simp only [go_sem,seval,aX,aV,aO,aZ,aM,rH,Cx,dJ,dS,gC hfq,eT hfq,c41,K4]
    ·intro E54 m55 e56 _;simp only [aB,aA];refine aQ λK hK=>?_;have K6:=qJ9 K1 f12 c10 f15 f16 f23 f24 c33 e56;simp only [go_sem,seval,KG,QF,aM,rH,Cx,dJ,aX,aO,aV,dS,gC hfq,eT hfq,K6]
     first | apply hK | (refine ⟨by omega,?_⟩;apply hK)
     simp only [aB,aA];refine ⟨c29,MQ _,(i64.wrap (v26+(1:Int))),y34,j28,?_⟩;simp only [go_sem,seval,aX,aV,aO,aZ,aM,rH,Cx,dJ,dS,gC hfq,eT hfq,K6]
   ·refine lT ?_
    try simp only [seval,bD,aY,aB,aA]
    obtain rfl:=bV j28;refine aK ?_;obtain ⟨x57,h58,h⟩:=aI h;refine aQ λK hK=>?_;simp only [go_sem,seval,KG,QF,aM,rH,Cx,dJ,aX,aO,aV,dS,gC hfq,eT hfq,c33,K3];refine SC.mono (vG n v27 a0.bY _ h58 _ _ _ (21::q) (15::q) (by simp only [go_sem,seval,aM,rH,Cx,dJ,aX,aO,aV,dS,gC hfq,eT hfq,c33,K3])) ?_;rintro _ _ ⟨vr_x57,rfl,rfl⟩;simp only [go_sem,seval,aM,rH,Cx,dJ,aX,aO,aV,dS,gC hfq,eT hfq,c33,K3]
    first | apply hK | (refine ⟨by omega,?_⟩;apply hK)
    simp only [aB,aA];refine aK (aK (aQ λK hK=>?_));simp only [go_sem,seval,KG,QF,aM,rH,Cx,dJ,aX,aO,aV,dS,gC hfq,eT hfq,c33,K3]
    first | apply hK | (refine ⟨by omega,?_⟩;apply hK)
    simp only [aB,aA];refine eU h (λc59 h=>?_) (λc59 h=>?_)
    ·refine aK (mT [(0,0),(5,0),(1,0),(2,0),(3,0),(4,1),(6,0)] 47 λK hK=>?_);simp only [go_sem,seval,KG,QF,aM,rH,Cx,dJ,aX,aO,aV,dS,gC hfq,eT hfq,c33,c59,K3]
     first | apply hK | (refine ⟨by omega,?_⟩;apply hK)
     simp only [aB,aA];refine cV ?_
     try simp only [aU,aS]
     cases h;refine ⟨by simp,?_⟩;simp only [go_sem,seval,aX,aV,aO,aZ,aM,rH,Cx,dJ,dS,gC hfq,eT hfq,c33,c59,K3]
    ·refine cO ?_
     try simp only [aB,aA]
     refine aK (SW_frz (p:=(21::q)) (id:=(15::q)) (cs:=[.vec (15::q) 3 x57.c_.bP.length,.list .self (x57.c_.gW.map (cI .i64)),.list .self (x57.c_.tT.map (cI .u32)),.list .self (x57.c_.oO.map (cI .u32)),.li x57.e_]) (off:=0) (sz:=3) (f:=aN.C) (l:=x57.c_.bP) (h0:=m.hp) (by simp only [go_sem,seval,aM,rH,Cx,dJ,aX,aO,aV,dS,gC hfq,eT hfq,c33,c59,K3]) rfl (by rfl) (by simp only [go_sem,seval,aM,rH,Cx,dJ,aX,aO,aV,dS,gC hfq,eT hfq,c33,c59,K3]) f12 (λx=>by rw [aN.C_eq];rfl) (by decide) ?_);refine aQ λK hK=>?_;have K7:=qJ9 K1 c10 f15 f16 f23 f24 c33 c59 e32;simp only [go_sem,seval,KG,QF,aM,rH,Cx,dJ,aX,aO,aV,dS,gC hfq,eT hfq,K7]
     first | apply hK | (refine ⟨by omega,?_⟩;apply hK)
     simp only [aB,aA];refine cV ?_
     try simp only [aU,aS]
     cases h;refine ⟨by simp,?_⟩;simp only [go_sem,seval,aX,aV,aO,aZ,aM,rH,Cx,dJ,dS,gC hfq,eT hfq,K7]
def Ae (f:cJ->Int->Option (aR × bH × Bool)):Prop:=∀a0 a1 r,f a0 a1=some r->∀(q:Pa) (m:M) (vs:List V),vs.map V.weak1=[.list .none (pT a0),.li a1]/\(m.hp=λ_=>none)/\m.gl 0=.eptr [(cA bZ.C dR)] 0 0/\m.gl 1=.eptr [(cA bJ.C cM)] 0 0/\m.gl 2=.eptr [[.lw 0,.lw 4294967295]] 0 0/\m.gl 3=.eptr [(cA cS eY)] 0 0/\m.gl 4=.eptr [(cA cS cF)] 0 0/\m.gl 6=.eptr [(cA (cA cS) cW)] 0 0->SC prog 23 vs q m (λv Y=>v=.tup [.agg ((aR.C r.1)),.agg ((bH.C r.2.1)),.lb r.2.2]/\Y=m)
theorem EY (n:Nat):Ae (mX n):=by
 rintro a0 a1 r h q m vs ⟨hv,hgh,hg0,hg1,hg2,hg3,hg4,hg6⟩;refine SC.wv hv (sY func23 call23 ntmps23 results23 ?_);unfold mX at h;refine aK (aQ λK hK=>?_);have K1:=qJ6 hg0 hg1 hg2 hg3 hg4 hg6;simp only [go_sem,seval,hgh,K1];apply hK;simp only [aB,aA];refine aK (aK (aQ λK hK=>?_));simp only [go_sem,seval,hgh,K1];apply hK;simp only [aB,aA];refine eU h (λc3 h=>?_) (λc3 h=>?_)
 ·refine aK (aQ λK hK=>?_);simp only [go_sem,seval,c3,hgh,K1];apply hK;simp only [aB,aA];refine vV (id:=(0::q)) (off:=4) (cs:=[.ls [],.lb false,.li (0:Int),.li (0:Int),.nilv,.nilv]) (by simp only [go_sem,seval,c3,hgh,K1]) rfl ?_;refine vV (id:=(0::q)) (off:=5) (cs:=[.ls [],.lb false,.li (0:Int),.li (0:Int),.list .none [],.nilv]) (by simp only [go_sem,seval,c3,hgh,K1]) rfl ?_;refine cV ?_
  try simp only [aU,aS]
  cases h;exact jS
 ·refine cO ?_
  try simp only [aB,aA]
  refine aK ?_;obtain ⟨x4,h6,h⟩:=aI h;refine aQ λK hK=>?_;simp only [go_sem,seval,c3,hgh,K1];refine SC.bA (Kx n a0 _ h6 _ _ _) ?_;simp only [go_sem,seval,c3,hgh,K1];apply hK;simp only [aB,aA];refine aK (aK (aQ λK hK=>?_));simp only [go_sem,seval,c3,hgh,K1];apply hK;simp only [aB,aA];refine eU h (λc7 h=>?_) (λc7 h=>?_)
  ·refine aK (aQ λK hK=>?_);simp only [go_sem,seval,c3,c7,hgh,K1];apply hK;simp only [aB,aA];refine vV (id:=(0::q)) (off:=4) (cs:=[.ls [],.lb false,.li (0:Int),.li (0:Int),.nilv,.nilv]) (by simp only [go_sem,seval,c3,c7,hgh,K1]) rfl ?_;refine vV (id:=(0::q)) (off:=5) (cs:=[.ls [],.lb false,.li (0:Int),.li (0:Int),.list .none [],.nilv]) (by simp only [go_sem,seval,c3,c7,hgh,K1]) rfl ?_;refine cV ?_
   try simp only [aU,aS]
   cases h;exact jS
  ·refine cO ?_
   try simp only [aB,aA]
   refine aK ?_;obtain ⟨x8,h10,h⟩:=aI h;refine aQ λK hK=>?_;have K2:=qJ3 K1 c3 c7;simp only [go_sem,seval,hgh,K2];refine SC.bA (Mw n x4.1 a1 _ h10 _ _ _) ?_;simp only [go_sem,seval,hgh,K2];apply hK;simp only [aB,aA];refine aK (aK (aQ λK hK=>?_));simp only [go_sem,seval,hgh,K2];apply hK;simp only [aB,aA];refine eU h (λc11 h=>?_) (λc11 h=>?_)
   ·refine aK (aQ λK hK=>?_);simp only [go_sem,seval,c11,hgh,K2];apply hK;simp only [aB,aA];refine vV (id:=(0::q)) (off:=4) (cs:=[.ls [],.lb false,.li (0:Int),.li (0:Int),.nilv,.nilv]) (by simp only [go_sem,seval,c11,hgh,K2]) rfl ?_;refine vV (id:=(0::q)) (off:=5) (cs:=[.ls [],.lb false,.li (0:Int),.li (0:Int),.list .none [],.nilv]) (by simp only [go_sem,seval,c11,hgh,K2]) rfl ?_;refine cV ?_
    try simp only [aU,aS]
    cases h;exact jS
   ·refine cO ?_
    try simp only [aB,aA]
    refine aK ?_;obtain ⟨x12,h14,h⟩:=aI h;refine aQ λK hK=>?_;simp only [go_sem,seval,c11,hgh,K2];refine SC.bA (IZ n x8.1 _ h14 _ _ _) ?_;simp only [go_sem,seval,c11,hgh,K2];apply hK;simp only [aB,aA];refine aK (Gy [(0,0),(4,0),(1,1),(5,0),(2,0),(3,0),(6,0)] 44 ?_);simp only [aB,aA];refine cV ?_
    try simp only [aU,aS]
    cases h;exact jS
instance:nO 23 (∀n,Ae (mX n)):=⟨EY⟩
def Ak (f:eJ->Int->Option (Int × eJ)):Prop:=∀a0 a1 r,f a0 a1=some r->∀(q:Pa) (m:M) (vs:List V) (P0:Pa),vs.map V.weak1=[.ptr P0 0,.li a1]/\m.blk P0=some ((eJ.C a0))->SC prog 48 vs q m (λv Y=>v=.li r.1/\Y=(m.set P0 ((eJ.C r.2))))
theorem Fb:Ak (lE):=λa0 a1 r h q m vs P0 ⟨hv,w0⟩=>SC.wva hv (SC.ac w0 λ_ _ _=>dB func48 call48 ntmps48 results48 rfl (wk .z q m (lE.eq_1 _ _) h))
instance:nO 48 (Ak lE):=⟨Fb⟩
def HA (f:aR->bH->Int->Option Int):Prop:=∀a0 a1 a2 r,f a0 a1 a2=some r->BV prog 49 [.agg ((aR.C a0)),.agg ((bH.C a1)),.li a2] (.li r)
theorem KX:HA (zM):=λa0 a1 a2 r h q m vs hv=>SC.wva hv (dB func49 call49 ntmps49 results49 rfl (wk (.j 2 2 23 [.v 13 Bool λy=>.lb y] [2,3,7] [3,7] [] none .z (.c .z (.c .z (.j 2 6 37 [.v 30 Bool λy=>.lb y] [7] [7] [] none .z .z)))) q m (zM.eq_1 _ _ _) h))
instance:nO 49 (HA zM):=⟨KX⟩
def HB (f:aR->Option Int):Prop:=∀a0 r,f a0=some r->BV prog 50 [.agg ((aR.C a0))] (.li r)
theorem KY:HB (zN):=λa0 r h q m vs hv=>SC.wva hv (dB func50 call50 ntmps50 results50 rfl (wk .z q m (zN.eq_1 _) h))
instance:nO 50 (HB zN):=⟨KY⟩
def II (f:aR->bH->Option (cQ × Int)):Prop:=∀a0 a1 r,f a0 a1=some r->BV prog 24 [.agg ((aR.C a0)),.agg ((bH.C a1))] (.tup [.agg ((cQ.C r.1)),.li r.2])
theorem Mv (n:Nat):II (zO n):=λa0 a1 r h q m vs hv=>SC.wva hv (dB func24 call24 ntmps24 results24 rfl (wk (.l [.v 14 Int λy=>.li y,.b 6 eJ λy=>(eJ.C y),.b 7 cQ λy=>[.list .self (y.sL.map (cI .i64)),.list .self (y.ES.map (cI .i64)),.li y.bU,.li y.LQ]] [2,3,4,6,7,13] [2,3,4] [] none .z (.l [.v 32 Int λy=>.li y,.b 6 eJ λy=>(eJ.C y),.b 7 cQ λy=>[.list .self (y.sL.map (cI .i64)),.list .self (y.ES.map (cI .i64)),.li y.bU,.li y.LQ]] [2,4,6,7,31] [2,4] [] none .z .z)) q m (zO.eq_1 _ _ _) h))
instance:nO 24 (∀n,II (zO n)):=⟨Mv⟩
def vC (f:Option Bool):Prop:=∀r,f=some r->∀(q:Pa) (m:M) (vs:List V),vs.map V.weak1=[]/\(m.hp=λ_=>none)/\m.gl 0=.eptr [(cA bZ.C dR)] 0 0/\m.gl 1=.eptr [(cA bJ.C cM)] 0 0/\m.gl 2=.eptr [[.lw 0,.lw 4294967295]] 0 0/\m.gl 3=.eptr [(cA cS eY)] 0 0/\m.gl 4=.eptr [(cA cS cF)] 0 0/\m.gl 6=.eptr [(cA (cA cS) cW)] 0 0->SC prog 22 vs q m (λv Y=>v=.lb r/\Y=m)
theorem BX (n:Nat):vC (lN n):=λr h q m vs ⟨hv,_,_,_,_,_,_,_⟩=>SC.wva hv (dB func22 call22 ntmps22 results22 rfl (wk (.j 2 3 72 [.v 0 Bool λy=>.lb y] [] [] [] none .z .z) q m (lN.eq_1 _) h))
instance:nO 22 (∀n,vC (lN n)):=⟨BX⟩
def BN (f:cQ->aR->Option (List bR)):Prop:=∀a0 a1 r,f a0 a1=some r->BV prog 26 [.agg ((cQ.C a0)),.agg ((aR.C a1))] (.list .none (r.map bR.C))
theorem Gl (n:Nat):BN (qY n):=λa0 a1 r h q m vs hv=>SC.wva hv (dB func26 call26 ntmps26 results26 rfl (wk (.s 5 (.l [.o 5 (List bR) λy=>(y.map bR.C),.v 6 Int λy=>.li y,.v 17 Int λy=>.li y] [2,15,16] [2] [] none (.c (.j 1 1 20 [.o 5 (List bR) λy=>(y.map bR.C),.v 6 Int λy=>.li y] [2,15,16,17] [2] [] none (.c (.l [.o 5 (List bR) λy=>(y.map bR.C),.v 6 Int λy=>.li y,.v 30 Int λy=>.li y] [2,7,15,16,17,29] [2] [] none (.c (.j 1 3 30 [.o 5 (List bR) λy=>(y.map bR.C),.v 6 Int λy=>.li y] [2,7,15,16,17,29,30] [2] [] none (.j 2 13 13 [.v 42 Bool λy=>.lb y] [2,5,6,7,10,15,16,17,29,30] [2] [] none .z .z) .z) .z) .z) (.l [.o 5 (List bR) λy=>(y.map bR.C),.v 6 Int λy=>.li y,.v 30 Int λy=>.li y] [2,7,15,16,17,29] [2] [] none (.c (.j 1 3 30 [.o 5 (List bR) λy=>(y.map bR.C),.v 6 Int λy=>.li y] [2,7,15,16,17,29,30] [2] [] none (.j 2 13 13 [.v 42 Bool λy=>.lb y] [2,5,6,7,10,15,16,17,29,30] [2] [] none .z .z) .z) .z) .z)) .z) .z) .z)) q m (qY.eq_1 _ _ _) h))
instance:nO 26 (∀n,BN (qY n)):=⟨Gl⟩
def uD (f:cJ->Int->Option Bool):Prop:=∀a0 a1 r,f a0 a1=some r->∀(q:Pa) (m:M) (vs:List V),vs.map V.weak1=[.list .none (pT a0),.li a1]/\(m.hp=λ_=>none)/\m.gl 0=.eptr [(cA bZ.C dR)] 0 0/\m.gl 1=.eptr [(cA bJ.C cM)] 0 0/\m.gl 2=.eptr [[.lw 0,.lw 4294967295]] 0 0/\m.gl 3=.eptr [(cA cS eY)] 0 0/\m.gl 4=.eptr [(cA cS cF)] 0 0/\m.gl 6=.eptr [(cA (cA cS) cW)] 0 0->SC prog 7 vs q m (λv Y=>v=.lb r/\Y=m)
theorem AA (n:Nat):uD (lV n):=λa0 a1 r h q m vs ⟨hv,_,_,_,_,_,_,_⟩=>SC.wva hv (dB func7 call7 ntmps7 results7 rfl (wk (.c .z (.c .z (.j 2 7 37 [.v 44 Bool λy=>.lb y] [5,8,9] [8,5] [] none .z (.c .z (.s 10 (.l [.o 10 (List bR) λy=>(y.map bR.C),.v 11 Int λy=>.li y,.v 53 Int λy=>.li y] [5,8,52] [8,5] [] none (.c (.j 1 1 21 [.o 10 (List bR) λy=>(y.map bR.C),.v 11 Int λy=>.li y] [5,8,52,53] [8,5] [] none (.c (.c (.l [.o 10 (List bR) λy=>(y.map bR.C),.v 11 Int λy=>.li y,.v 69 Int λy=>.li y] [5,8,12,52,53,68] [8,5] [] none (.c (.j 1 3 30 [.o 10 (List bR) λy=>(y.map bR.C),.v 11 Int λy=>.li y] [5,8,12,52,53,68,69] [8,5] [] none (.j 2 22 13 [.v 81 Bool λy=>.lb y] [5,8,10,11,12,14,52,53,68,69] [8,5] [] none .z .z) .z) .z) .z) (.l [.o 10 (List bR) λy=>(y.map bR.C),.v 11 Int λy=>.li y,.v 69 Int λy=>.li y] [5,8,12,52,53,68] [8,5] [] none (.c (.j 1 3 30 [.o 10 (List bR) λy=>(y.map bR.C),.v 11 Int λy=>.li y] [5,8,12,52,53,68,69] [8,5] [] none (.j 2 22 13 [.v 81 Bool λy=>.lb y] [5,8,10,11,12,14,52,53,68,69] [8,5] [] none .z .z) .z) .z) .z)) (.l [.o 10 (List bR) λy=>(y.map bR.C),.v 11 Int λy=>.li y,.v 69 Int λy=>.li y] [5,8,12,52,53,68] [8,5] [] none (.c (.j 1 3 30 [.o 10 (List bR) λy=>(y.map bR.C),.v 11 Int λy=>.li y] [5,8,12,52,53,68,69] [8,5] [] none (.j 2 22 13 [.v 81 Bool λy=>.lb y] [5,8,10,11,12,14,52,53,68,69] [8,5] [] none .z .z) .z) .z) .z)) .z) .z) (.j 2 28 75 [.v 124 Bool λy=>.lb y] [10,15] [] [] none .z (.c .z (.l [.v 127 Int λy=>.li y] [10,15,126] [] [] none .z .z))))))))) q m (lV.eq_1 _ _ _) h))
