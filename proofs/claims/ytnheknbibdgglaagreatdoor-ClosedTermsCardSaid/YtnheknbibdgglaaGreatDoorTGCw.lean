import Derived.Test.YtnheknbibdgglaaGreatDoorTGFw
import Derived.Test.YtnheknbibdgglaaGreatDoorTVt2
namespace Go.Proofs.YtnheknbibdgglaaGreatDoor.Abs
open Go.RowKit Tryz
open IntKind (i64 u32 u64 u8)
set_option linter.all false
set_option maxRecDepth 10000
set_option maxHeartbeats 2000000
open Tryz
instance:JM aH.C 3:=⟨λx=>by rw [aH.C_eq];rfl⟩
@[go_sem high] theorem eqT_49_neq {x y:Operand} {C:V->Prop} {a0 b0:Int} {a1 b1:Int} {a2 b2:Int}:rW prog .neq 49 x y (.agg [.li a0,.lw a1,.li a2]) (.agg [.li b0,.lw b1,.li b2]) C=C (.lb (!((a0 == b0) && ((a1 == b1) && (a2 == b2))))):=by
 have h:=SH (P:=prog) (T:=49) (x:=x) (y:=y) (C:=C) (xs:=[.int .i64 a0,.int .u32 a1,.int .i64 a2]) (ys:=[.int .i64 b0,.int .u32 b1,.int .i64 b2]) (es:=[a0 == b0,a1 == b1,a2 == b2]) (by kernel_rfl) (by kernel_rfl) (by kernel_rfl) (by kernel_rfl) (by kernel_rfl);simp only [xK,Dg,List.all_cons,List.all_nil,Bool.and_true,id] at h;exact h
def Ax (f:bW->Int->Option (aQ × aW × Bool)):Prop:=∀a0 a1 r,f a0 a1=some r->∀(q:Pa) (m:M) (vs:List V),vs.map V.weak1=[.list .none (qF a0),.li a1]/\(m.hp=λ_=>none)/\m.gl 0=.eptr [(cA bC.C cK)] 0 0/\m.gl 1=.eptr [(cA cS fO)] 0 0/\m.gl 2=.eptr [(cA cS cC)] 0 0/\m.gl 6=.eptr [(cA (cA cS) cW)] 0 0->SC prog 7 vs q m (λv Y=>v=.tup [.agg ((aQ.C r.1)),.agg ((aW.C r.2.1)),.lb r.2.2]/\Y=m)
theorem zH (n:Nat):Ax (mZ n):=by
 rintro a0 a1 r h q m vs ⟨hv,hgh,hg0,hg1,hg2,hg6⟩;refine SC.wv hv (sS func7 call7 ntmps7 results7 ?_);unfold mZ at h;refine bL ?_;refine aO (bL ?_);refine dI h (λc3 h=>?_) (λc3 h=>?_)
 ·refine bL ?_;refine Ar (id:=(0::q)) (off:=4) (cs:=[.ls [],.lb false,.li (0:Int),.li (0:Int),.nilv,.nilv]) (by simp only [go_sem,seval]) rfl ?_;refine Ar (id:=(0::q)) (off:=5) (cs:=[.ls [],.lb false,.li (0:Int),.li (0:Int),.list .none [],.nilv]) (by simp only [go_sem,seval]) rfl ?_;refine cD ?_
  try simp only [cM]
  cases h;exact jS
 ·refine bP ?_
  refine aO ?_;obtain ⟨x4,h6,h⟩:=aF h;refine dD λK hK=>?_;simp only [go_sem,seval,c3];refine SC.bA (Lc n a0 _ h6 _ _ _) ?_;simp only [go_sem,seval];apply hK;refine aO (bL ?_);refine dI h (λc7 h=>?_) (λc7 h=>?_)
  ·refine bL ?_;refine Ar (id:=(0::q)) (off:=4) (cs:=[.ls [],.lb false,.li (0:Int),.li (0:Int),.nilv,.nilv]) (by simp only [go_sem,seval]) rfl ?_;refine Ar (id:=(0::q)) (off:=5) (cs:=[.ls [],.lb false,.li (0:Int),.li (0:Int),.list .none [],.nilv]) (by simp only [go_sem,seval]) rfl ?_;refine cD ?_
   try simp only [cM]
   cases h;exact jS
  ·refine bP ?_
   refine aO ?_;obtain ⟨x8,h10,h⟩:=aF h;refine dD λK hK=>?_;simp only [go_sem,seval,c7];refine SC.bA (Nn n x4.1 a1 _ h10 _ _ _) ?_;simp only [go_sem,seval];apply hK;refine aO (dZ λK hK=>?_);simp only [go_sem,seval];apply hK;refine cD ?_;cases h;exact jS
instance:mN 7 (∀n,Ax (mZ n)):=⟨zH⟩
def Ap (f:(List aA)->Option Int):Prop:=∀a0 r,f a0=some r->AQ prog 19 [.list .none (a0.map aA.C)] (.li r)
theorem IV {kC} (IR:Ap kC) (n:Nat):Ap (vY kC n):=haveI:mN 19 (Ap kC):=⟨IR⟩;λa0 r h q m vs hv=>SC.wva hv (cY func19 call19 ntmps19 results19 rfl (wk (.l [.v 3 Int λy=>.li y,.v 8 Int λy=>.li y] [6,7] [] [] none (.c (.j 1 1 21 [.v 3 Int λy=>.li y] [6,7,8] [] [] none .z .z) .z) .z) q m (vY.eq_1 _ _ _) h))
theorem GE:∀n,Ap (xF n)
 | 0=>λ_ _ h=>dH h
 | n+1=>IV (GE n) n
def yY (f:(List Int)->Int->Option (List Int)):Prop:=∀a0 a1 r,f a0 a1=some r->AQ prog 20 [.list .none (a0.map (cI .u32)),.li a1] (.list .exact (r.map (cI .u32)))
theorem xT:yY tM:=λa0 a1 r h q m vs hv=>SO h q m vs hv
def Md (f:Int->Option aH):Prop:=∀a0 r,f a0=some r->AQ prog 21 [.li a0] (.agg ((aH.C r)))
theorem Ks:Md (EV):=λa0 r h q m vs hv=>SC.wva hv (cY func21 call21 ntmps21 results21 rfl (wk .z q m (EV.eq_1 _) h))
instance:mN 21 (Md EV):=⟨Ks⟩
def xS (f:aH->Option Int):Prop:=∀a0 r,f a0=some r->AQ prog 145 [.agg ((aH.C a0))] (.li r)
theorem Jv {qA} (JB:xS qA) (n:Nat):xS (xR qA n):=haveI:mN 145 (xS qA):=⟨JB⟩;λa0 r h q m vs hv=>SC.wva hv (cY func145 call145 ntmps145 results145 rfl (wk (.l [.v 3 Int λy=>.li y,.v 9 Int λy=>.li y] [7,8] [] [] none .z .z) q m (xR.eq_1 _ _ _) h))
theorem Ht:∀n,xS (wG n)
 | 0=>λ_ _ h=>dH h
 | n+1=>Jv (Ht n) n
instance:mN 145 (∀n,xS (wG n)):=⟨Ht⟩
def oM (f:bE->aD->Option Int):Prop:=∀a0 a1 r,f a0 a1=some r->∀(q:Pa) (m:M) (vs:List V) (T0:V),vs.map V.weak1=[.agg ([T0,.list .none (a0.gS.map (cI .i64)),.list .none (a0.oO.map (cI .u32)),.list .none (a0.jQ.map (cI .u32))]),.agg ((aD.C a1))]/\Rd m.hp T0 aH.C 3 a0.aX->SC prog 108 vs q m (λv Y=>v=.li r/\Y=m)
theorem Dd {gW} (Dc:oM gW) (n:Nat):oM (eW gW n):=haveI:mN 108 (oM gW):=⟨Dc⟩;λa0 a1 r h q m vs T0 ⟨hv,hrd⟩=>SC.wva hv (by rcases Rd.cases hrd with ⟨rfl,_⟩ | ⟨_,rfl,_⟩ <;> exact cY func108 call108 ntmps108 results108 rfl (wk (.c .z (.l [.v 5 Int λy=>.li y,.v 21 Int λy=>.li y] [2,19,20] [2] [] none .z .z)) q m (eW.eq_1 _ _ _ _) h))
theorem xG:∀n,oM (jA n)
 | 0=>λ_ _ _ h=>dH h
 | n+1=>Dd (xG n) n
instance:mN 108 (∀n,oM (jA n)):=⟨xG⟩
def Je (f:aH->(List Int)->Option Int):Prop:=∀a0 a1 r,f a0 a1=some r->AQ prog 37 [.agg ((aH.C a0)),.list .none (a1.map (cI .u32))] (.lw r)
theorem MN:Je (wQ):=λa0 a1 r h q m vs hv=>SC.wva hv (cY func37 call37 ntmps37 results37 rfl (wk .z q m (wQ.eq_1 _ _) h))
instance:mN 37 (Je wQ):=⟨MN⟩
def HW (f:Bool->Option Int):Prop:=∀a0 r,f a0=some r->AQ prog 38 [.lb a0] (.lw r)
theorem Ly:HW (uV):=λa0 r h q m vs hv=>SC.wva hv (cY func38 call38 ntmps38 results38 rfl (wk .z q m (uV.eq_1 _) h))
instance:mN 38 (HW uV):=⟨Ly⟩
def Ko (f:Int->Int->Option Int):Prop:=∀a0 a1 r,f a0 a1=some r->AQ prog 39 [.li a0,.lw a1] (.lw r)
theorem NY:Ko (At):=λa0 a1 r h q m vs hv=>SC.wva hv (cY func39 call39 ntmps39 results39 rfl (wk .z q m (At.eq_1 _ _) h))
instance:mN 39 (Ko At):=⟨NY⟩
def vV (f:Int->Int->Option Int):Prop:=∀a0 a1 r,f a0 a1=some r->AQ prog 107 [.lw a0,.li a1] (.lw r)
theorem CV:vV (iZ):=λa0 a1 r h q m vs hv=>SC.wva hv (cY func107 call107 ntmps107 results107 rfl (wk .z q m (iZ.eq_1 _ _) h))
instance:mN 107 (vV iZ):=⟨CV⟩
def HX (f:Int->Int->Int->Option Int):Prop:=∀a0 a1 a2 r,f a0 a1 a2=some r->AQ prog 69 [.li a0,.lw a1,.lw a2] (.lw r)
theorem Lz:HX (mY):=λa0 a1 a2 r h q m vs hv=>SC.wva hv (cY func69 call69 ntmps69 results69 rfl (wk .z q m (mY.eq_1 _ _ _) h))
instance:mN 69 (HX mY):=⟨Lz⟩
def Km (f:Int->Int->Int->Option (Int × Bool)):Prop:=∀a0 a1 a2 r,f a0 a1 a2=some r->AQ prog 40 [.li a0,.lw a1,.lw a2] (.tup [.lw r.1,.lb r.2])
theorem NV:Km (fZ):=λa0 a1 a2 r h q m vs hv=>SC.wva hv (cY func40 call40 ntmps40 results40 rfl (wk .z q m (fZ.eq_1 _ _ _) h))
instance:mN 40 (Km fZ):=⟨NV⟩
def Av (f:aH->(List Int)->Option (Int × Bool)):Prop:=∀a0 a1 r,f a0 a1=some r->AQ prog 17 [.agg ((aH.C a0)),.list .none (a1.map (cI .u32))] (.tup [.lw r.1,.lb r.2])
theorem Kr {uH} (KV:Av uH) (n:Nat):Av (lC uH n):=haveI:mN 17 (Av uH):=⟨KV⟩;λa0 a1 r h q m vs hv=>SC.wva hv (cY func17 call17 ntmps17 results17 rfl (wk (.c .z (.j 2 4 26 [.v 32 Bool λy=>.lb y] [1,2,6,7] [2] [] none .z .z)) q m (lC.eq_1 _ _ _ _) h))
theorem Ia:∀n,Av (jC n)
 | 0=>λ_ _ _ h=>dH h
 | n+1=>Kr (Ia n) n
instance:mN 17 (∀n,Av (jC n)):=⟨Ia⟩
def Mc (f:Int->Option aH):Prop:=∀a0 r,f a0=some r->AQ prog 146 [.lw a0] (.agg ((aH.C r)))
theorem PT:Mc (Ah):=λa0 r h q m vs hv=>SC.wva hv (cY func146 call146 ntmps146 results146 rfl (wk .z q m (Ah.eq_1 _) h))
instance:mN 146 (Mc Ah):=⟨PT⟩
def Au (f:aH->Option aH):Prop:=∀a0 r,f a0=some r->AQ prog 109 [.agg ((aH.C a0))] (.agg ((aH.C r)))
theorem Kq {rN} (KU:Au rN) (n:Nat):Au (jT rN n):=haveI:mN 109 (Au rN):=⟨KU⟩;λa0 r h q m vs hv=>SC.wva hv (cY func109 call109 ntmps109 results109 rfl (wk (.l [.v 4 Bool λy=>.lb y,.v 21 Int λy=>.li y,.b 3 aH λy=>[.li y.dR,.lw y.N_,.list .self (y.aL.map aH.C)]] [2,3,19,20] [2] [] none (.c (.j 2 8 23 [.v 4 Bool λy=>.lb y] [2,3,19,20,21] [2,3] [] none .z .z) .z) .z) q m (jT.eq_1 _ _ _) h))
theorem HZ:∀n,Au (eA n)
 | 0=>λ_ _ h=>dH h
 | n+1=>Kq (HZ n) n
instance:mN 109 (∀n,Au (eA n)):=⟨HZ⟩
def Jo (f:bW->Option Int):Prop:=∀a0 r,f a0=some r->∀(q:Pa) (m:M) (vs:List V),vs.map V.weak1=[.ls a0]/\m.gl 3=.eptr [(cA bO.C eF)] 0 0->SC prog 147 vs q m (λv Y=>v=.li r/\Y=m)
theorem Nh (n:Nat):Jo (BC n):=λa0 r h q m vs ⟨hv,_⟩=>SC.wva hv (cY func147 call147 ntmps147 results147 rfl (wk (.l [.v 6 Int λy=>.li y] [0,5] [] [] none .z .z) q m (BC.eq_1 _ _) h))
instance:mN 147 (∀n,Jo (BC n)):=⟨Nh⟩
def pH (f:bE->aD->Option aH):Prop:=∀a0 a1 r,f a0 a1=some r->∀(q:Pa) (m:M) (vs:List V) (T0:V),vs.map V.weak1=[.agg ([T0,.list .none (a0.gS.map (cI .i64)),.list .none (a0.oO.map (cI .u32)),.list .none (a0.jQ.map (cI .u32))]),.agg ((aD.C a1))]/\m.gl 3=.eptr [(cA bO.C eF)] 0 0/\Rd m.hp T0 aH.C 3 a0.aX->SC prog 110 vs q m (λv Y=>v=.agg ((aH.C r))/\Y=m)
theorem Eb {iK} (DZ:pH iK) (n:Nat):pH (fK iK n):=haveI:mN 110 (pH iK):=⟨DZ⟩;λa0 a1 r h q m vs T0 ⟨hv,_,hrd⟩=>SC.wva hv (by rcases Rd.cases hrd with ⟨rfl,_⟩ | ⟨_,rfl,_⟩ <;> exact cY func110 call110 ntmps110 results110 rfl (wk (.c .z (.c .z (.l [.v 30 Int λy=>.li y,.b 5 aH λy=>[.li y.dR,.lw y.N_,.list .self (y.aL.map aH.C)]] [2,4,5,28,29] [2,4] [] none .z .z))) q m (fK.eq_1 _ _ _ _) h))
theorem yP:∀n,pH (jI n)
 | 0=>λ_ _ _ h=>dH h
 | n+1=>Eb (yP n) n
instance:mN 110 (∀n,pH (jI n)):=⟨yP⟩
def Cn (f:bE->aD->Option (aH × Int)):Prop:=∀a0 a1 r,f a0 a1=some r->∀(q:Pa) (m:M) (vs:List V) (T0:V),vs.map V.weak1=[.agg ([T0,.list .none (a0.gS.map (cI .i64)),.list .none (a0.oO.map (cI .u32)),.list .none (a0.jQ.map (cI .u32))]),.agg ((aD.C a1))]/\m.gl 3=.eptr [(cA bO.C eF)] 0 0/\Rd m.hp T0 aH.C 3 a0.aX->SC prog 72 vs q m (λv Y=>v=.tup [.agg ((aH.C r.1)),.li r.2]/\Y=m)
theorem Hm (n:Nat):Cn (pL n):=λa0 a1 r h q m vs T0 ⟨hv,_,hrd⟩=>SC.wva hv (by rcases Rd.cases hrd with ⟨rfl,_⟩ | ⟨_,rfl,_⟩ <;> exact cY func72 call72 ntmps72 results72 rfl (wk .z q m (pL.eq_1 _ _ _) h))
instance:mN 72 (∀n,Cn (pL n)):=⟨Hm⟩
def xZ (f:aN->aD->Option (aH × aN)):Prop:=∀a0 a1 r,f a0 a1=some r->∀(q:Pa) (m:M) (vs:List V) (P0:Pa) (W:Pa),vs.map V.weak1=[.ptr P0 0,.agg ((aD.C a1))]/\m.blk P0=some ([.vec W 3 a0.c_.aX.length,.list .self (a0.c_.gS.map (cI .i64)),.list .self (a0.c_.oO.map (cI .u32)),.list .self (a0.c_.jQ.map (cI .u32)),.li a0.e_])/\m.gl 3=.eptr [(cA bO.C eF)] 0 0/\m.hp W=some (a0.c_.aX.map aH.C).flatten->SC prog 43 vs q m (λv Y=>∃vr,v=.agg ((aH.C r.1))/\Y=m.ck P0 ([.vec W 3 r.2.c_.aX.length,.list .self (r.2.c_.gS.map (cI .i64)),.list .self (r.2.c_.oO.map (cI .u32)),.list .self (r.2.c_.jQ.map (cI .u32)),.li r.2.e_]) (lE m.hp W (r.2.c_.aX.map aH.C).flatten) vr)
theorem Eo (n:Nat):xZ (lI n):=λa0 a1 r h q m vs P0 W ⟨hv,w0,_,hkW⟩=>SC.wva hv (SC.ac w0 λ_ _ _=>have hW0:=wX hkW;cY func43 call43 ntmps43 results43 rfl (wk .z q m (lI.eq_1 _ _ _) h))
instance:mN 43 (∀n,xZ (lI n)):=⟨Eo⟩
def oF (f:aN->aD->Option aN):Prop:=∀a0 a1 r,f a0 a1=some r->∀(q:Pa) (m:M) (vs:List V) (P0:Pa) (W:Pa),vs.map V.weak1=[.ptr P0 0,.agg ((aD.C a1))]/\m.blk P0=some ([.vec W 3 a0.c_.aX.length,.list .self (a0.c_.gS.map (cI .i64)),.list .self (a0.c_.oO.map (cI .u32)),.list .self (a0.c_.jQ.map (cI .u32)),.li a0.e_])/\m.gl 3=.eptr [(cA bO.C eF)] 0 0/\m.hp W=some (a0.c_.aX.map aH.C).flatten->SC prog 42 vs q m (λv Y=>∃vr,v=.tup []/\Y=m.ck P0 ([.vec W 3 r.c_.aX.length,.list .self (r.c_.gS.map (cI .i64)),.list .self (r.c_.oO.map (cI .u32)),.list .self (r.c_.jQ.map (cI .u32)),.li r.e_]) (lE m.hp W (r.c_.aX.map aH.C).flatten) vr)
theorem CF {gV} (CZ:oF gV) (n:Nat):oF (oE gV n):=haveI:mN 42 (oF gV):=⟨CZ⟩;λa0 a1 r h q m vs P0 W ⟨hv,w0,_,hkW⟩=>SC.wva hv (SC.ac w0 λ_ _ _=>have hW0:=wX hkW;cY func42 call42 ntmps42 results42 rfl (wk (.l [.v 11 Int λy=>.li y,.w 0 aN (λy=>[.vec W 3 y.c_.aX.length,.list .self (y.c_.gS.map (cI .i64)),.list .self (y.c_.oO.map (cI .u32)),.list .self (y.c_.jQ.map (cI .u32)),.li y.e_]) λy h=>lE h W (y.c_.aX.map aH.C).flatten] [0,3,9,10] [3] [] (some P0) .z (.j 2 6 19 [.v 31 Bool λy=>.lb y] [0,3] [0,3] [] (some P0) .z (.c (.l [.v 35 Int λy=>.li y,.w 0 aN (λy=>[.vec W 3 y.c_.aX.length,.list .self (y.c_.gS.map (cI .i64)),.list .self (y.c_.oO.map (cI .u32)),.list .self (y.c_.jQ.map (cI .u32)),.li y.e_]) λy h=>lE h W (y.c_.aX.map aH.C).flatten] [0,33,34] [] [] (some P0) .z .z) .z))) q m (oE.eq_1 _ _ _ _) h))
theorem wZ:∀n,oF (lK n)
 | 0=>λ_ _ _ h=>dH h
 | n+1=>CF (wZ n) n
instance:mN 42 (∀n,oF (lK n)):=⟨wZ⟩
def Mb (f:(List Int)->Int->Int->Option Int):Prop:=∀a0 a1 a2 r,f a0 a1 a2=some r->AQ prog 171 [.list .none (a0.map (cI .u32)),.lw a1,.lw a2] (.lw r)
theorem PS:Mb (Ag):=λa0 a1 a2 r h q m vs hv=>SC.wva hv (cY func171 call171 ntmps171 results171 rfl (wk .z q m (Ag.eq_1 _ _ _) h))
instance:mN 171 (Mb Ag):=⟨PS⟩
def Dk (f:Int->Int->Int->Option (Int × Int)):Prop:=∀a0 a1 a2 r,f a0 a1 a2=some r->AQ prog 195 [.lw a0,.lw a1,.lw a2] (.tup [.lw r.1,.lw r.2])
theorem HG:Dk (qT):=λa0 a1 a2 r h q m vs hv=>SC.wva hv (cY func195 call195 ntmps195 results195 rfl (wk .z q m (qT.eq_1 _ _ _) h))
instance:mN 195 (Dk qT):=⟨HG⟩
def Kn (f:bF->bF->Option bF):Prop:=∀a0 a1 r,f a0 a1=some r->∀(q:Pa) (m:M) (vs:List V),vs.map V.weak1=[.agg ((bF.C a0)),.agg ((bF.C a1))]/\m.gl 4=.eptr [[.lw 0,.lw 4294967295]] 0 0->SC prog 185 vs q m (λv Y=>v=.agg ((bF.C r))/\Y=m)
theorem NW:Kn (BK):=λa0 a1 r h q m vs ⟨hv,_⟩=>SC.wva hv (cY func185 call185 ntmps185 results185 rfl (wk .z q m (BK.eq_1 _ _) h))
instance:mN 185 (Kn BK):=⟨NW⟩
def Dj (f:Int->Int->Option (Int × Int)):Prop:=∀a0 a1 r,f a0 a1=some r->AQ prog 70 [.lw a0,.lw a1] (.tup [.lw r.1,.lw r.2])
theorem HE:Dj (sK):=λa0 a1 r h q m vs hv=>SC.wva hv (cY func70 call70 ntmps70 results70 rfl (wk .z q m (sK.eq_1 _ _) h))
instance:mN 70 (Dj sK):=⟨HE⟩
def Ge (f:bF->bF->Option bF):Prop:=∀a0 a1 r,f a0 a1=some r->∀(q:Pa) (m:M) (vs:List V),vs.map V.weak1=[.agg ((bF.C a0)),.agg ((bF.C a1))]/\m.gl 4=.eptr [[.lw 0,.lw 4294967295]] 0 0->SC prog 186 vs q m (λv Y=>v=.agg ((bF.C r))/\Y=m)
theorem Ju:Ge (tR):=λa0 a1 r h q m vs ⟨hv,_⟩=>SC.wva hv (cY func186 call186 ntmps186 results186 rfl (wk .z q m (tR.eq_1 _ _) h))
instance:mN 186 (Ge tR):=⟨Ju⟩
def Hr (f:Int->bF->bF->Option bF):Prop:=∀a0 a1 a2 r,f a0 a1 a2=some r->∀(q:Pa) (m:M) (vs:List V),vs.map V.weak1=[.li a0,.agg ((bF.C a1)),.agg ((bF.C a2))]/\m.gl 4=.eptr [[.lw 0,.lw 4294967295]] 0 0->SC prog 172 vs q m (λv Y=>v=.agg ((bF.C r))/\Y=m)
theorem Kl:Hr (uU):=λa0 a1 a2 r h q m vs ⟨hv,_⟩=>SC.wva hv (cY func172 call172 ntmps172 results172 rfl (wk .z q m (uU.eq_1 _ _ _) h))
instance:mN 172 (Hr uU):=⟨Kl⟩
def xQ (f:aH->(List Int)->(List Int)->Option bF):Prop:=∀a0 a1 a2 r,f a0 a1 a2=some r->∀(q:Pa) (m:M) (vs:List V),vs.map V.weak1=[.agg ((aH.C a0)),.list .none (a1.map (cI .u32)),.list .none (a2.map (cI .u32))]/\m.gl 4=.eptr [[.lw 0,.lw 4294967295]] 0 0->SC prog 148 vs q m (λv Y=>v=.agg ((bF.C r))/\Y=m)
theorem Jt {tC} (JA:xQ tC) (n:Nat):xQ (lS tC n):=haveI:mN 148 (xQ tC):=⟨JA⟩;λa0 a1 a2 r h q m vs ⟨hv,_⟩=>SC.wva hv (cY func148 call148 ntmps148 results148 rfl (wk .z q m (lS.eq_1 _ _ _ _ _) h))
theorem Hs:∀n,xQ (pJ n)
 | 0=>λ_ _ _ _ h=>dH h
 | n+1=>Jt (Hs n) n
instance:mN 148 (∀n,xQ (pJ n)):=⟨Hs⟩
def HY (f:aH->(List Int)->(List Int)->Option (Int × Int)):Prop:=∀a0 a1 a2 r,f a0 a1 a2=some r->∀(q:Pa) (m:M) (vs:List V),vs.map V.weak1=[.agg ((aH.C a0)),.list .none (a1.map (cI .u32)),.list .none (a2.map (cI .u32))]/\m.gl 4=.eptr [[.lw 0,.lw 4294967295]] 0 0->SC prog 111 vs q m (λv Y=>v=.tup [.lw r.1,.lw r.2]/\Y=m)
theorem LB (n:Nat):HY (zU n):=λa0 a1 a2 r h q m vs ⟨hv,_⟩=>SC.wva hv (cY func111 call111 ntmps111 results111 rfl (wk .z q m (zU.eq_1 _ _ _ _) h))
instance:mN 111 (∀n,HY (zU n)):=⟨LB⟩
def AL (f:bE->aD->Option (Int × Int)):Prop:=∀a0 a1 r,f a0 a1=some r->∀(q:Pa) (m:M) (vs:List V) (T0:V),vs.map V.weak1=[.agg ([T0,.list .none (a0.gS.map (cI .i64)),.list .none (a0.oO.map (cI .u32)),.list .none (a0.jQ.map (cI .u32))]),.agg ((aD.C a1))]/\m.gl 3=.eptr [(cA bO.C eF)] 0 0/\m.gl 4=.eptr [[.lw 0,.lw 4294967295]] 0 0/\Rd m.hp T0 aH.C 3 a0.aX->SC prog 73 vs q m (λv Y=>v=.tup [.lw r.1,.lw r.2]/\Y=m)
theorem FV (n:Nat):AL (eG n):=λa0 a1 r h q m vs T0 ⟨hv,_,_,hrd⟩=>SC.wva hv (by rcases Rd.cases hrd with ⟨rfl,_⟩ | ⟨_,rfl,_⟩ <;> exact cY func73 call73 ntmps73 results73 rfl (wk .z q m (eG.eq_1 _ _ _) h))
instance:mN 73 (∀n,AL (eG n)):=⟨FV⟩
def yA (f:aN->aA->Option aN):Prop:=∀a0 a1 r,f a0 a1=some r->∀(q:Pa) (m:M) (vs:List V) (P0:Pa) (W:Pa),vs.map V.weak1=[.ptr P0 0,.agg ((aA.C a1))]/\m.blk P0=some ([.vec W 3 a0.c_.aX.length,.list .self (a0.c_.gS.map (cI .i64)),.list .self (a0.c_.oO.map (cI .u32)),.list .self (a0.c_.jQ.map (cI .u32)),.li a0.e_])/\m.gl 3=.eptr [(cA bO.C eF)] 0 0/\m.gl 4=.eptr [[.lw 0,.lw 4294967295]] 0 0/\m.hp W=some (a0.c_.aX.map aH.C).flatten->SC prog 44 vs q m (λv Y=>∃vr,v=.tup []/\Y=m.ck P0 ([.vec W 3 r.c_.aX.length,.list .self (r.c_.gS.map (cI .i64)),.list .self (r.c_.oO.map (cI .u32)),.list .self (r.c_.jQ.map (cI .u32)),.li r.e_]) (lE m.hp W (r.c_.aX.map aH.C).flatten) vr)
theorem Ep (n:Nat):yA (lJ n):=λa0 a1 r h q m vs P0 W ⟨hv,w0,_,_,hkW⟩=>SC.wva hv (SC.ac w0 λ_ _ _=>have hW0:=wX hkW;cY func44 call44 ntmps44 results44 rfl (wk .z q m (lJ.eq_1 _ _ _) h))
instance:mN 44 (∀n,yA (lJ n)):=⟨Ep⟩
def qO (f:aN->(List aA)->Option aN):Prop:=∀a0 a1 r,f a0 a1=some r->∀(q:Pa) (m:M) (vs:List V) (P0:Pa) (W:Pa),vs.map V.weak1=[.ptr P0 0,.list .none (a1.map aA.C)]/\m.blk P0=some ([.vec W 3 a0.c_.aX.length,.list .self (a0.c_.gS.map (cI .i64)),.list .self (a0.c_.oO.map (cI .u32)),.list .self (a0.c_.jQ.map (cI .u32)),.li a0.e_])/\m.gl 3=.eptr [(cA bO.C eF)] 0 0/\m.gl 4=.eptr [[.lw 0,.lw 4294967295]] 0 0/\m.hp W=some (a0.c_.aX.map aH.C).flatten->SC prog 22 vs q m (λv Y=>∃vr,v=.tup []/\Y=m.ck P0 ([.vec W 3 r.c_.aX.length,.list .self (r.c_.gS.map (cI .i64)),.list .self (r.c_.oO.map (cI .u32)),.list .self (r.c_.jQ.map (cI .u32)),.li r.e_]) (lE m.hp W (r.c_.aX.map aH.C).flatten) vr)
theorem BT {dW} (Ci:qO dW) (n:Nat):qO (nI dW n):=haveI:mN 22 (qO dW):=⟨Ci⟩;λa0 a1 r h q m vs P0 W ⟨hv,w0,_,_,hkW⟩=>SC.wva hv (SC.ac w0 λ_ _ _=>have hW0:=wX hkW;cY func22 call22 ntmps22 results22 rfl (wk (.l [.v 11 Int λy=>.li y,.w 0 aN (λy=>[.vec W 3 y.c_.aX.length,.list .self (y.c_.gS.map (cI .i64)),.list .self (y.c_.oO.map (cI .u32)),.list .self (y.c_.jQ.map (cI .u32)),.li y.e_]) λy h=>lE h W (y.c_.aX.map aH.C).flatten] [0,9,10] [] [] (some P0) (.c (.j 11 1 36 [.w 0 aN (λy=>[.vec W 3 y.c_.aX.length,.list .self (y.c_.gS.map (cI .i64)),.list .self (y.c_.oO.map (cI .u32)),.list .self (y.c_.jQ.map (cI .u32)),.li y.e_]) λy h=>lE h W (y.c_.aX.map aH.C).flatten] [0,9,10,11] [] [] (some P0) (.l [.v 18 Int λy=>.li y,.w 0 aN (λy=>[.vec W 3 y.c_.aX.length,.list .self (y.c_.gS.map (cI .i64)),.list .self (y.c_.oO.map (cI .u32)),.list .self (y.c_.jQ.map (cI .u32)),.li y.e_]) λy h=>lE h W (y.c_.aX.map aH.C).flatten] [0,5,9,10,11,16,17] [5] [] (some P0) (.c (.j 1 3 50 [.w 0 aN (λy=>[.vec W 3 y.c_.aX.length,.list .self (y.c_.gS.map (cI .i64)),.list .self (y.c_.oO.map (cI .u32)),.list .self (y.c_.jQ.map (cI .u32)),.li y.e_]) λy h=>lE h W (y.c_.aX.map aH.C).flatten] [0,5,9,10,11,16,17,18] [5] [] (some P0) (.j 2 7 32 [.v 47 Bool λy=>.lb y] [0,5,7,9,10,11,16,17,18] [0,5,7] [] (some P0) .z .z) .z) .z) (.j 2 12 20 [.v 73 Bool λy=>.lb y] [0,5,9,10,11] [0,5] [] (some P0) .z .z)) .z) .z) .z) q m (nI.eq_1 _ _ _ _) h))
theorem vR:∀n,qO (gL n)
 | 0=>λ_ _ _ h=>dH h
 | n+1=>BT (vR n) n
def GF (f:aQ->Option (bE × Int)):Prop:=∀a0 r,f a0=some r->∀(q:Pa) (m:M) (vs:List V),vs.map V.weak1=[.agg ((aQ.C a0))]/\m.gl 3=.eptr [(cA bO.C eF)] 0 0/\m.gl 4=.eptr [[.lw 0,.lw 4294967295]] 0 0->SC prog 8 vs q m (λv Y=>v=.tup [.agg ((bE.C r.1)),.li r.2]/\Y=m)
theorem FL (n:Nat):GF (tV n):=by
 rintro a0 r h q m vs ⟨hv,hg3,hg4⟩;refine SC.wv hv ?_;refine SC.freshH λhfq=>?_;refine SC.hpq ?_;refine sS func8 call8 ntmps8 results8 ?_;unfold tV at h;refine aO (cX λK hK=>?_);simp only [go_sem,seval]
 first | apply hK | (refine ⟨by omega,?_⟩;apply hK)
 simp only [aK];refine aO (aO ?_);obtain ⟨y3,j3,h⟩:=aF h;refine tK 12 (λX Y=>X 1=.ptr (0::q) 0/\X 2=.ptr (1::q) 0/\X 15=.lb y3/\Y.blk (0::q)=some ((aQ.C a0))/\Y.blk (1::q)=some ([.list .self ([].map aH.C),.list .self ([].map (cI .i64)),.list .self ([].map (cI .u32)),.list .self ([].map (cI .u32))])/\Y.gl=m.gl/\Y.hp=m.hp/\m.back q Y=m) ?_ ?_
 ·rcases jR j3 with ⟨c4,j3⟩ | ⟨c4,j3⟩
  ·refine cX λK hK=>?_;simp only [go_sem,seval,c4]
   first | apply hK | (refine ⟨by omega,?_⟩;apply hK)
   simp only [aK];obtain rfl:=aU j3;exact jD
  ·obtain ⟨x5,h6,j3⟩:=aF j3;refine cX λK hK=>?_;simp only [go_sem,seval,c4];refine SC.bA (GE n a0.bH _ h6 _ _ _) ?_;simp only [go_sem,seval]
   first | apply hK | (refine ⟨by omega,?_⟩;apply hK)
   simp only [aK];obtain rfl:=aU j3;exact jD
 ·intro E7 m8 e9 _;refine dI h (λc10 h=>?_) (λc10 h=>?_)
  ·refine aO (cX λK hK=>?_);simp only [go_sem,seval,e9]
   first | apply hK | (refine ⟨by omega,?_⟩;apply hK)
   simp only [aK];refine cD ?_
   try simp only [cM]
   cases h;refine ⟨by simp,?_⟩;simp only [go_sem,seval,bT,dL,GQ,Gw hfq,e9]
  ·refine bP ?_
   refine aO ?_;obtain ⟨x11,h14,h⟩:=aF h;obtain ⟨⟨f15,f16⟩,h⟩:=bY h;refine vG λf17=>?_;have f12:m.hp (15::q)=none:=by have:=f17 15 (by omega);simpa only [go_sem,↓reduceIte,Nat.reduceEqDiff,Nat.reduceAdd,Nat.reduceMul,Nat.reduceLT,Nat.reduceLeDiff,reduceCtorEq,Int.reduceLE,Int.reduceLT,Int.reduceToNat,UInt8.reduceToNat,Ka hfq,Gw hfq,c10,f15,f16,e9,hg3,hg4] using this
   refine dZ λK hK=>?_;simp only [go_sem,seval,Ue,List.replicate_zero,f15,f16,e9];refine SC.bA (xT [(4294967295:Int)] (4:Int) _ h14 _ _ _) ?_;simp only [go_sem,seval,Dq,gG,f15,f16,e9]
   first | apply hK | (refine ⟨by omega,?_⟩;apply hK)
   simp only [aK];refine RW (id:=(15::q)) (vs:=(List.replicate a0.aR.length [.li 0,.lw 0,.nilv]).flatten) (vs':=((List.replicate a0.aR.length aH.Z).map aH.C).flatten) (by simp only [go_sem,seval]) (yH.mk (f:=aH.C) (z:=aH.Z) (by rw [show aH.C aH.Z=[.li 0,.lw 0,.list .none []] from by rw [aH.C_eq];rfl];exact ⟨.inl rfl,.inl rfl,.inr ⟨rfl,rfl⟩,trivial⟩) a0.aR.length) ?_;refine aO (aO ?_);obtain ⟨⟨f18,f19⟩,h⟩:=bY h;refine cX λK hK=>?_;simp only [go_sem,seval,f18,f19,e9]
   first | apply hK | (refine ⟨by omega,?_⟩;apply hK)
   simp only [aK];refine cU ?_;obtain ⟨y23,j23,h⟩:=aF h;refine tQ (λc X Y=>∃v21 v22,sL a0 c v21 v22=some y23/\X 1=.ptr (0::q) 0/\X 2=.ptr (1::q) 0/\X 4=.ptr (21::q) 0/\X 31=.list .none ((a0.aR.take a0.aT.toNat).map aJ.C)/\X 32=.li ((a0.aR.take a0.aT.toNat).length:Int)/\X 33=.li v21/\Y.blk (21::q)=some ([.vec (15::q) 3 v22.c_.aX.length,.list .self (v22.c_.gS.map (cI .i64)),.list .self (v22.c_.oO.map (cI .u32)),.list .self (v22.c_.jQ.map (cI .u32)),.li v22.e_])/\Y.blk (0::q)=some ((aQ.C a0))/\Y.blk (1::q)=some ([.list .self ([].map aH.C),.list .self ([].map (cI .i64)),.list .self ([].map (cI .u32)),.list .self ([].map (cI .u32))])/\Y.gl=m.gl/\Y.hp=lE m.hp (15::q) (v22.c_.aX.map aH.C).flatten/\(m.back q Y).seth m.hp=m) n ⟨(0:Int),(aN.mk (bE.mk (List.replicate a0.aR.length aH.Z) [] [(0:Int),(0:Int),(0:Int),(0:Int)] x11) (0:Int)),j23,?_⟩ ?_
   ·simp only [go_sem,seval,bT,xdl,xJ,GQ,e9]
   rintro i20 c24 E25 m26 ⟨v21,v22,j23,e27⟩ _
   rcases c24 with _ | c24
   ·cases j23
   rw [sL] at j23;refine aO (cX λK hK=>?_);simp only [go_sem,e27]
   first | apply hK | (refine ⟨by omega,?_⟩;apply hK)
   simp only [aK];refine aO (dI j23 (λc28 j23=>?_) (λc28 j23=>?_))
   ·refine bP ?_
    refine aO ?_;obtain ⟨y29,j29,j23⟩:=aF j23;refine tK 20 (λX Y=>X 1=.ptr (0::q) 0/\X 2=.ptr (1::q) 0/\X 4=.ptr (21::q) 0/\X 31=.list .none ((a0.aR.take a0.aT.toNat).map aJ.C)/\X 32=.li ((a0.aR.take a0.aT.toNat).length:Int)/\X 33=.li v21/\Y.blk (21::q)=some ([.vec (15::q) 3 y29.c_.aX.length,.list .self (y29.c_.gS.map (cI .i64)),.list .self (y29.c_.oO.map (cI .u32)),.list .self (y29.c_.jQ.map (cI .u32)),.li y29.e_])/\Y.blk (0::q)=some ((aQ.C a0))/\Y.blk (1::q)=some ([.list .self ([].map aH.C),.list .self ([].map (cI .i64)),.list .self ([].map (cI .u32)),.list .self ([].map (cI .u32))])/\Y.gl=m.gl/\Y.hp=lE m.hp (15::q) (y29.c_.aX.map aH.C).flatten/\(m.back q Y).seth m.hp=m) ?_ ?_
    ·refine cU (aO ?_);obtain ⟨x30,h35,j29⟩:=aF j29;obtain ⟨f32,f33,f34⟩:=bI h35;refine cX λK hK=>?_;simp only [go_sem,seval,f32,f33,f34,e27]
     first | apply hK | (refine ⟨by omega,?_⟩;apply hK)
     simp only [aK];refine aO (cX λK hK=>?_);simp only [go_sem,seval]
     first | apply hK | (refine ⟨by omega,?_⟩;apply hK)
     simp only [aK];refine dI j29 (λc36 j29=>?_) (λc36 j29=>?_)
     ·obtain ⟨x37,h39,j29⟩:=aF j29;obtain ⟨x38,h43,j29⟩:=aF j29;obtain ⟨f40,f41,f42⟩:=bI h43;obtain ⟨w44,d45⟩:=GC (f:=aH.C) (sz:=3) (λx=>by rw [aH.C_eq];rfl) f42;simp only [go_sem] at d45;have f46:(3<=w44.length+1+1+1)=True:=eq_true (by omega);have d47:=Il (f:=aH.C) (sz:=3) (λx=>by rw [aH.C_eq];rfl) (l:=v22.c_.aX) (i:=v21.toNat) (by have:=f40;have:=f41;omega) x37;simp only [go_sem] at d47;have f48:=Nm (f:=aH.C) (sz:=3) (l:=v22.c_.aX) (λx=>by rw [aH.C_eq];rfl) (i:=v21.toNat) (by have:=f40;have:=f41;omega);refine dZ λK hK=>?_;simp only [go_sem,seval,c36,e27];refine SC.bA (Ks v21 _ h39 _ _ _) ?_;simp only [go_sem,seval,gG,f32,f41,d47,e27]
      first | apply hK | (refine ⟨by omega,?_⟩;apply hK)
      simp only [aK,bU];obtain rfl:=aU j29;refine ⟨by decide,?_⟩;simp only [go_sem,seval,bT,vK,xJ,e27]
     ·refine bP ?_
      try simp only [aK,bU]
      obtain rfl:=aU j29;exact jD
    ·intro E49 m50 e51 _;refine cX λK hK=>?_;simp only [go_sem,seval,e51]
     first | apply hK | (refine ⟨by omega,?_⟩;apply hK)
     simp only [aK];refine ⟨c24,JO _,(i64.wrap (v21+(1:Int))),y29,j23,?_⟩;simp only [go_sem,seval,e51]
   ·refine jJ ?_
    try simp only [dB,cP,↓reduceIte,aK]
    obtain rfl:=aU j23;refine aO ?_;obtain ⟨x52,h53,h⟩:=aF h;refine cX λK hK=>?_;simp only [go_sem,seval,c28,e27];refine SC.mono (vR n v22 a0.bH _ h53 _ _ _ (21::q) (15::q) (by simp only [go_sem,seval,e27,hg3,hg4])) ?_;rintro _ _ ⟨vr_x52,rfl,rfl⟩;simp only [go_sem,seval,e27]
    first | apply hK | (refine ⟨by omega,?_⟩;apply hK)
    simp only [aK];refine aO (aO (cX λK hK=>?_));simp only [go_sem,seval,e27]
    first | apply hK | (refine ⟨by omega,?_⟩;apply hK)
    simp only [aK];refine dI h (λc54 h=>?_) (λc54 h=>?_)
    ·refine aO (dZ λK hK=>?_);simp only [go_sem,seval,c54,e27]
     first | apply hK | (refine ⟨by omega,?_⟩;apply hK)
     simp only [aK];refine cD ?_
     try simp only [cM]
     cases h;refine ⟨by simp,?_⟩;simp only [go_sem,seval,bT,dL,Ka hfq,e27]
    ·refine bP ?_
     refine aO (SW_frz (p:=(21::q)) (id:=(15::q)) (cs:=[.vec (15::q) 3 x52.c_.aX.length,.list .self (x52.c_.gS.map (cI .i64)),.list .self (x52.c_.oO.map (cI .u32)),.list .self (x52.c_.jQ.map (cI .u32)),.li x52.e_]) (off:=0) (sz:=3) (f:=aH.C) (l:=x52.c_.aX) (h0:=m.hp) (by simp only [go_sem,seval]) rfl (by rfl) (by simp only [go_sem]) f12 (λx=>by rw [aH.C_eq];rfl) (by decide) ?_);refine cX λK hK=>?_;simp only [go_sem,seval,c54,e27]
     first | apply hK | (refine ⟨by omega,?_⟩;apply hK)
     simp only [aK];refine cD ?_;cases h;refine ⟨by simp,?_⟩;simp only [go_sem,seval,bT,xJ,GQ,Gw hfq,e27]
instance:mN 8 (∀n,GF (tV n)):=⟨FL⟩
def AM (f:bE->Int->Option Int):Prop:=∀a0 a1 r,f a0 a1=some r->AQ prog 18 [.agg ((bE.C a0)),.li a1] (.li r)
theorem FW:AM (lO):=λa0 a1 r h q m vs hv=>SC.wva hv (cY func18 call18 ntmps18 results18 rfl (wk (.j 2 1 20 [.v 23 Bool λy=>.lb y] [1,2] [2] [] none .z (.c .z (.j 2 4 57 [.v 59 Bool λy=>.lb y] [5] [] [] none .z .z))) q m (lO.eq_1 _ _) h))
instance:mN 18 (AM lO):=⟨FW⟩
def Dz (f:Option Bool):Prop:=∀r,f=some r->∀(q:Pa) (m:M) (vs:List V),vs.map V.weak1=[]/\(m.hp=λ_=>none)/\m.gl 0=.eptr [(cA bC.C cK)] 0 0/\m.gl 1=.eptr [(cA cS fO)] 0 0/\m.gl 2=.eptr [(cA cS cC)] 0 0/\m.gl 3=.eptr [(cA bO.C eF)] 0 0/\m.gl 4=.eptr [[.lw 0,.lw 4294967295]] 0 0/\m.gl 6=.eptr [(cA (cA cS) cW)] 0 0->SC prog 6 vs q m (λv Y=>v=.lb r/\Y=m)
theorem Cz (n:Nat):Dz (nV n):=λr h q m vs ⟨hv,_,_,_,_,_,_,_⟩=>SC.wva hv (cY func6 call6 ntmps6 results6 rfl (wk (.j 2 3 33 [.v 31 Bool λy=>.lb y] [4] [4] [] none .z (.c .z (.j 2 6 55 [.v 0 Bool λy=>.lb y] [] [] [] none .z .z))) q m (nV.eq_1 _) h))
def kD (f:aP->aD->Option (List aM)):Prop:=∀a0 a1 r,f a0 a1=some r->∀(q:Pa) (m:M) (vs:List V) (P0:Pa) (W:Pa),vs.map V.weak1=[.ptr P0 0,.agg ((aD.C a1))]/\m.blk P0=some ([.vec W 1 a0.cQ.length,.list .self (a0.fS.map (cI .u32)),.list .self (a0.cB.map (cI .u32))])/\m.hp W=some (a0.cQ.map (cL aM.C)).flatten->SC prog 45 vs q m (λv Y=>v=.list .none (r.map aM.C)/\Y=m)
instance:QV iM 15:=⟨by decide⟩
@[go_sem low] theorem IA {n:Nat}:List.drop n [V.lit (.string (bs ([110,111,116]:bW))),V.lit (.string (bs ([110,101,103]:bW))),V.lit (.string (bs ([124]:bW))),V.lit (.string (bs ([94]:bW))),V.lit (.string (bs ([38]:bW))),V.lit (.string (bs ([61,61]:bW))),V.lit (.string (bs ([60]:bW))),V.lit (.string (bs ([60,60]:bW))),V.lit (.string (bs ([62,62]:bW))),V.lit (.string (bs ([60,60,60]:bW))),V.lit (.string (bs ([43]:bW))),V.lit (.string (bs ([45]:bW))),V.lit (.string (bs ([42]:bW))),V.lit (.string (bs ([47]:bW))),V.lit (.string (bs ([37]:bW)))]=LI cS iM[n]? ++ cA cS (iM.drop (n+1)):=Ip (f:=cS) (l:=iM)
theorem zA {eJ} (zD:kD eJ) (n:Nat):kD (dC eJ n):=haveI:mN 45 (kD eJ):=⟨zD⟩;λa0 a1 r h q m vs P0 W ⟨hv,w0,hkW⟩=>SC.wva hv (SC.ac w0 λ_ _ _=>have hW0:=wX hkW;cY func45 call45 ntmps45 results45 rfl (wk (.c .z (.j 2 4 26 [.v 37 Bool λy=>.lb y] [0,3,5] [0,3,5] [] none .z (.c .z (.l [.v 6 Int λy=>.li y,.v 47 Int λy=>.li y] [0,3,46] [0,3] [] none (.c (.j 1 1 12 [.v 6 Int λy=>.li y] [0,3,46,47] [0,3] [] none .z .z) .z) (.s 9 (.l [.o 9 (List aM) λy=>(y.map aM.C),.v 67 Int λy=>.li y] [0,65,66] [0] [] none .z .z)))))) q m (dC.eq_1 _ _ _ _) h))
theorem tO:∀n,kD (dN n)
 | 0=>λ_ _ _ h=>dH h
 | n+1=>zA (tO n) n
instance:mN 45 (∀n,kD (dN n)):=⟨tO⟩
def Eg (f:Int->Option Int):Prop:=∀a0 r,f a0=some r->AQ prog 74 [.li a0] (.li r)
theorem dE:Eg (mI):=λa0 r h q m vs hv=>SC.wva hv (cY func74 call74 ntmps74 results74 rfl (wk (.j 2 1 7 [.v 8 Bool λy=>.lb y] [0] [] [] none .z .z) q m (mI.eq_1 _) h))
def wU (f:(List aM)->Option Bool):Prop:=∀a0 r,f a0=some r->AQ prog 46 [.list .none (a0.map aM.C)] (.lb r)
theorem Dy (n:Nat):wU (mJ n):=by
 intro a0 r h q m vs hv;refine SC.wv hv (sS func46 call46 ntmps46 results46 ?_);unfold mJ at h;refine bL ?_;refine aO (bL ?_);refine cU ?_;obtain ⟨y3,j3,h⟩:=aF h;refine tQ (λc X Y=>∃v2,kG a0 c v2=some y3/\X 0=.list .none (a0.map aM.C)/\X 3=.li v2/\Y.gl=m.gl/\m.back q Y=m) n ⟨(0:Int),j3,?_⟩ ?_
 ·simp only [go_sem,seval,bV]
 rintro i1 c4 E5 m6 ⟨v2,j3,e7⟩ _
 rcases c4 with _ | c4
 ·cases j3
 rw [kG] at j3;refine aO (bL ?_);refine dI j3 (λc8 j3=>?_) (λc8 j3=>?_)
 ·refine bP ?_
  refine aO (cU (aO ?_));obtain ⟨y9,j9,j3⟩:=aF j3;refine tK 57 (λX Y=>X 0=.list .none (a0.map aM.C)/\X 3=.li v2/\X 62=.lb y9/\Y.gl=m.gl/\m.back q Y=m) ?_ ?_
  ·obtain ⟨x10,h15,j9⟩:=aF j9;obtain ⟨f12,f13,f14⟩:=bI h15;obtain ⟨x11,h16,j9⟩:=aF j9
   rcases jR j9 with ⟨c17,j9⟩ | ⟨c17,j9⟩
   ·refine dZ λK hK=>?_;simp only [go_sem,seval,f12,f13,f14,e7];refine SC.bA (dE x10.dR _ h16 _ _ _) ?_;simp only [go_sem,seval,c17];apply hK;simp only [aK];obtain rfl:=aU j9;exact jD
   ·obtain ⟨x18,h19,j9⟩:=aF j9
    rcases jR j9 with ⟨c20,j9⟩ | ⟨c20,j9⟩
    ·refine dZ λK hK=>?_;simp only [go_sem,seval,f12,f13,f14,e7];refine SC.bA (dE x10.dR _ h16 _ _ _) ?_;simp only [go_sem,seval,f12,f13,f14,c17,e7];refine SC.bA (dE x10.dR _ h19 _ _ _) ?_;simp only [go_sem,seval,f14,c20];apply hK;simp only [aK];obtain rfl:=aU j9;exact jD
    ·
     rcases jR j9 with ⟨c21,j9⟩ | ⟨c21,j9⟩
     ·
      rcases jR j9 with ⟨c22,j9⟩ | ⟨c22,j9⟩
      ·refine dZ λK hK=>?_;have K1:=qJ4 f12 f13 f14 e7;simp only [go_sem,seval,K1];refine SC.bA (dE x10.dR _ h16 _ _ _) ?_;simp only [go_sem,seval,c17,K1];refine SC.bA (dE x10.dR _ h19 _ _ _) ?_;simp only [go_sem,seval,c20,c21,c22,K1];apply hK;simp only [aK];obtain rfl:=aU j9;exact jD
      ·
       rcases jR j9 with ⟨c23,j9⟩ | ⟨c23,j9⟩
       ·refine dZ λK hK=>?_;have K2:=qJ4 f12 f13 f14 e7;simp only [go_sem,seval,K2];refine SC.bA (dE x10.dR _ h16 _ _ _) ?_;simp only [go_sem,seval,c17,K2];refine SC.bA (dE x10.dR _ h19 _ _ _) ?_;simp only [go_sem,seval,c20,c21,c22,c23,K2];apply hK;simp only [aK];obtain rfl:=aU j9;exact jD
       ·refine dZ λK hK=>?_;have K3:=qJ4 f12 f13 f14 e7;simp only [go_sem,seval,K3];refine SC.bA (dE x10.dR _ h16 _ _ _) ?_;simp only [go_sem,seval,c17,K3];refine SC.bA (dE x10.dR _ h19 _ _ _) ?_;simp only [go_sem,seval,c20,c21,c22,c23,K3];apply hK;simp only [aK];obtain rfl:=aU j9;exact jD
     ·
      rcases jR j9 with ⟨c24,j9⟩ | ⟨c24,j9⟩
      ·refine dZ λK hK=>?_;have K4:=qJ4 f12 f13 f14 e7;simp only [go_sem,seval,K4];refine SC.bA (dE x10.dR _ h16 _ _ _) ?_;simp only [go_sem,seval,c17,K4];refine SC.bA (dE x10.dR _ h19 _ _ _) ?_;simp only [go_sem,seval,c20,c21,c24,K4];apply hK;simp only [aK];obtain rfl:=aU j9;exact jD
      ·refine dZ λK hK=>?_;have K5:=qJ4 f12 f13 f14 e7;simp only [go_sem,seval,K5];refine SC.bA (dE x10.dR _ h16 _ _ _) ?_;simp only [go_sem,seval,c17,K5];refine SC.bA (dE x10.dR _ h19 _ _ _) ?_;simp only [go_sem,seval,c20,c21,c24,K5];apply hK;simp only [aK];obtain rfl:=aU j9;exact jD
  ·intro E25 m26 e27 _;refine dI j3 (λc28 j3=>?_) (λc28 j3=>?_)
   ·refine bL ?_;refine cD ?_
    try simp only [cM,iT]
    obtain rfl:=aU j3;simp only [Pu] at h;cases h;exact jS
   ·refine bP ?_
    try simp only [aK,bU]
    refine lP ?_;refine ⟨c4,JO _,(i64.wrap (v2+(1:Int))),j3,?_⟩;simp only [go_sem,seval,e27]
 ·refine jJ ?_
  try simp only [dB,cP,↓reduceIte,aK]
  obtain rfl:=aU j3;simp only [xdn] at h;refine bL ?_;refine cD ?_;cases h;exact jS
instance:mN 46 (∀n,wU (mJ n)):=⟨Dy⟩
def Ef (f:Int->Option Int):Prop:=∀a0 r,f a0=some r->AQ prog 112 [.lw a0] (.lw r)
theorem gT (n:Nat):Ef (dA n):=λa0 r h q m vs hv=>SC.wva hv (cY func112 call112 ntmps112 results112 rfl (wk (.l [.v 3 Int λy=>.lw y,.v 4 Int λy=>.lw y] [0] [] [] none .z .z) q m (dA.eq_1 _ _) h))
def Dv (f:Int->Int->Option Int):Prop:=∀a0 a1 r,f a0 a1=some r->AQ prog 113 [.lw a0,.lw a1] (.lw r)
theorem oR (n:Nat):Dv (fT n):=λa0 a1 r h q m vs hv=>SC.wva hv (cY func113 call113 ntmps113 results113 rfl (wk (.l [.v 0 Int λy=>.lw y,.v 5 Int λy=>.lw y] [1] [] [] none .z .z) q m (fT.eq_1 _ _ _) h))
def wS (f:Int->Int->Int->Option (Int × Bool)):Prop:=∀a0 a1 a2 r,f a0 a1 a2=some r->AQ prog 75 [.li a0,.lw a1,.lw a2] (.tup [.lw r.1,.lb r.2])
theorem Dx (n:Nat):wS (gI n):=by
 intro a0 a1 a2 r h q m vs hv;refine SC.wv hv (sS func75 call75 ntmps75 results75 ?_);unfold gI at h;refine bL ?_;refine aO (bL ?_);refine dI h (λc1 h=>?_) (λc1 h=>?_)
 ·refine aO (bL ?_);refine dI h (λc2 h=>?_) (λc2 h=>?_)
  ·refine bL ?_;refine cD ?_
   try simp only [cM]
   cases h;exact jS
  ·refine bP ?_
   refine aO (bL ?_);refine dI h (λc3 h=>?_) (λc3 h=>?_)
   ·refine aO ?_;obtain ⟨f4,h⟩:=bY h;refine lP ?_;refine cD ?_
    try simp only [cM]
    cases h;exact jS
   ·refine bP ?_
    refine aO ?_;obtain ⟨f5,h⟩:=bY h;refine lP ?_;refine cD ?_
    try simp only [cM]
    cases h;exact jS
 ·refine bP ?_
  refine bL ?_;refine aO (bL ?_);refine dI h (λc6 h=>?_) (λc6 h=>?_)
  ·refine lP ?_;refine bL ?_;refine aO (bL ?_);refine dI h (λc7 h=>?_) (λc7 h=>?_)
   ·refine lP ?_;refine yV ?_;simp only [go_sem,seval,(by decide:(32:Int) ≠ (0:Int))];refine aO ?_;obtain ⟨x8,h12,h⟩:=aF h;obtain ⟨x9,h13,h⟩:=aF h;obtain ⟨x10,h14,h⟩:=aF h;obtain ⟨f15,h⟩:=bY h;refine dZ λK hK=>?_;simp only [go_sem,seval];refine SC.bA (gT n (a2.tmod (32:Int)) _ h12 _ _ _) ?_;simp only [go_sem,seval];refine SC.bA (gT n (a2.tmod (32:Int)) _ h13 _ _ _) ?_;simp only [go_sem,seval,f15];refine SC.bA (oR n a1 (a2.tmod (32:Int)) _ h14 _ _ _) ?_;simp only [go_sem,seval];apply hK;refine aO ?_;obtain ⟨x16,h20,h⟩:=aF h;obtain ⟨f17,f18,f19⟩:=bI h20;have f21:a0<(16:Int):=f18;obtain ⟨w22,d23⟩:=Hd (f:=(cI .u32)) (s:=1) (λ_ _=>rfl) f19
    try simp only [PH] at d23
    have d24:List.drop (a0.toNat) [V.lit (.int .u32 (0:Int)),V.lit (.int .u32 (0:Int)),V.lit (.int .u32 (0:Int)),V.lit (.int .u32 (u32.wrap ((4294967295:Int) - a1))),V.lit (.int .u32 (u32.wrap ((0:Int) - a1))),V.lit (.int .u32 (Mn .u32 a1 a2)),V.lit (.int .u32 (IB .u32 a1 a2)),V.lit (.int .u32 (sJ .u32 a1 a2)),V.lit (.int .u32 (1:Int)),V.lit (.int .u32 (1:Int)),V.lit (.int .u32 (u32.wrap (a1*x8))),V.lit (.int .u32 (u32.wrap (a1.tdiv x9))),V.lit (.int .u32 x10),V.lit (.int .u32 (u32.wrap (a1+a2))),V.lit (.int .u32 (u32.wrap (a1 - a2))),V.lit (.int .u32 (u32.wrap (a1*a2)))]=_:=d23;refine dD λK hK=>?_;simp only [go_sem,seval,f17,f21,d24];apply hK;refine cD ?_;cases h;exact jS
   ·refine bP ?_
    refine yV ?_;simp only [go_sem,seval,c7,(by decide:(32:Int) ≠ (0:Int))];refine aO ?_;obtain ⟨x25,h29,h⟩:=aF h;obtain ⟨x26,h30,h⟩:=aF h;obtain ⟨x27,h31,h⟩:=aF h;obtain ⟨f32,h⟩:=bY h;refine dZ λK hK=>?_;simp only [go_sem,seval];refine SC.bA (gT n (a2.tmod (32:Int)) _ h29 _ _ _) ?_;simp only [go_sem,seval];refine SC.bA (gT n (a2.tmod (32:Int)) _ h30 _ _ _) ?_;simp only [go_sem,seval,f32];refine SC.bA (oR n a1 (a2.tmod (32:Int)) _ h31 _ _ _) ?_;simp only [go_sem,seval];apply hK;refine aO ?_;obtain ⟨x33,h37,h⟩:=aF h;obtain ⟨f34,f35,f36⟩:=bI h37;have f38:a0<(16:Int):=f35;obtain ⟨w39,d40⟩:=Hd (f:=(cI .u32)) (s:=1) (λ_ _=>rfl) f36
    try simp only [PH] at d40
    have d41:List.drop (a0.toNat) [V.lit (.int .u32 (0:Int)),V.lit (.int .u32 (0:Int)),V.lit (.int .u32 (0:Int)),V.lit (.int .u32 (u32.wrap ((4294967295:Int) - a1))),V.lit (.int .u32 (u32.wrap ((0:Int) - a1))),V.lit (.int .u32 (Mn .u32 a1 a2)),V.lit (.int .u32 (IB .u32 a1 a2)),V.lit (.int .u32 (sJ .u32 a1 a2)),V.lit (.int .u32 (1:Int)),V.lit (.int .u32 (0:Int)),V.lit (.int .u32 (u32.wrap (a1*x25))),V.lit (.int .u32 (u32.wrap (a1.tdiv x26))),V.lit (.int .u32 x27),V.lit (.int .u32 (u32.wrap (a1+a2))),V.lit (.int .u32 (u32.wrap (a1 - a2))),V.lit (.int .u32 (u32.wrap (a1*a2)))]=_:=d40;refine dD λK hK=>?_;simp only [go_sem,seval,f34,f38,d41];apply hK;refine cD ?_;cases h;exact jS
  ·refine bP ?_
   refine bL ?_;refine aO (bL ?_);refine dI h (λc42 h=>?_) (λc42 h=>?_)
   ·refine lP ?_;refine yV ?_;simp only [go_sem,seval,(by decide:(32:Int) ≠ (0:Int))];refine aO ?_;obtain ⟨x43,h47,h⟩:=aF h;obtain ⟨x44,h48,h⟩:=aF h;obtain ⟨x45,h49,h⟩:=aF h;obtain ⟨f50,h⟩:=bY h;refine dZ λK hK=>?_;simp only [go_sem,seval];refine SC.bA (gT n (a2.tmod (32:Int)) _ h47 _ _ _) ?_;simp only [go_sem,seval];refine SC.bA (gT n (a2.tmod (32:Int)) _ h48 _ _ _) ?_;simp only [go_sem,seval,f50];refine SC.bA (oR n a1 (a2.tmod (32:Int)) _ h49 _ _ _) ?_;simp only [go_sem,seval];apply hK;refine aO ?_;obtain ⟨x51,h55,h⟩:=aF h;obtain ⟨f52,f53,f54⟩:=bI h55;have f56:a0<(16:Int):=f53;obtain ⟨w57,d58⟩:=Hd (f:=(cI .u32)) (s:=1) (λ_ _=>rfl) f54
    try simp only [PH] at d58
    have d59:List.drop (a0.toNat) [V.lit (.int .u32 (0:Int)),V.lit (.int .u32 (0:Int)),V.lit (.int .u32 (0:Int)),V.lit (.int .u32 (u32.wrap ((4294967295:Int) - a1))),V.lit (.int .u32 (u32.wrap ((0:Int) - a1))),V.lit (.int .u32 (Mn .u32 a1 a2)),V.lit (.int .u32 (IB .u32 a1 a2)),V.lit (.int .u32 (sJ .u32 a1 a2)),V.lit (.int .u32 (0:Int)),V.lit (.int .u32 (1:Int)),V.lit (.int .u32 (u32.wrap (a1*x43))),V.lit (.int .u32 (u32.wrap (a1.tdiv x44))),V.lit (.int .u32 x45),V.lit (.int .u32 (u32.wrap (a1+a2))),V.lit (.int .u32 (u32.wrap (a1 - a2))),V.lit (.int .u32 (u32.wrap (a1*a2)))]=_:=d58;refine dD λK hK=>?_;simp only [go_sem,seval,f52,f56,d59];apply hK;refine cD ?_;cases h;exact jS
   ·refine bP ?_
    refine yV ?_;simp only [go_sem,seval,c42,(by decide:(32:Int) ≠ (0:Int))];refine aO ?_;obtain ⟨x60,h64,h⟩:=aF h;obtain ⟨x61,h65,h⟩:=aF h;obtain ⟨x62,h66,h⟩:=aF h;obtain ⟨f67,h⟩:=bY h;refine dZ λK hK=>?_;simp only [go_sem,seval];refine SC.bA (gT n (a2.tmod (32:Int)) _ h64 _ _ _) ?_;simp only [go_sem,seval];refine SC.bA (gT n (a2.tmod (32:Int)) _ h65 _ _ _) ?_;simp only [go_sem,seval,f67];refine SC.bA (oR n a1 (a2.tmod (32:Int)) _ h66 _ _ _) ?_;simp only [go_sem,seval];apply hK;refine aO ?_;obtain ⟨x68,h72,h⟩:=aF h;obtain ⟨f69,f70,f71⟩:=bI h72;have f73:a0<(16:Int):=f70;obtain ⟨w74,d75⟩:=Hd (f:=(cI .u32)) (s:=1) (λ_ _=>rfl) f71
    try simp only [PH] at d75
    have d76:List.drop (a0.toNat) [V.lit (.int .u32 (0:Int)),V.lit (.int .u32 (0:Int)),V.lit (.int .u32 (0:Int)),V.lit (.int .u32 (u32.wrap ((4294967295:Int) - a1))),V.lit (.int .u32 (u32.wrap ((0:Int) - a1))),V.lit (.int .u32 (Mn .u32 a1 a2)),V.lit (.int .u32 (IB .u32 a1 a2)),V.lit (.int .u32 (sJ .u32 a1 a2)),V.lit (.int .u32 (0:Int)),V.lit (.int .u32 (0:Int)),V.lit (.int .u32 (u32.wrap (a1*x60))),V.lit (.int .u32 (u32.wrap (a1.tdiv x61))),V.lit (.int .u32 x62),V.lit (.int .u32 (u32.wrap (a1+a2))),V.lit (.int .u32 (u32.wrap (a1 - a2))),V.lit (.int .u32 (u32.wrap (a1*a2)))]=_:=d75;refine dD λK hK=>?_;simp only [go_sem,seval,f69,f73,d76];apply hK;refine cD ?_;cases h;exact jS
instance:mN 75 (∀n,wS (gI n)):=⟨Dx⟩
def nU (f:(List aM)->Int->Option ((List aM) × Int)):Prop:=∀a0 a1 r,f a0 a1=some r->AQ prog 47 [.list .none (a0.map aM.C),.li a1] (.tup [.list .none (r.1.map aM.C),.li r.2])
theorem Cy {kI} (CY:nU kI) (n:Nat):nU (eU kI n):=haveI:mN 47 (nU kI):=⟨CY⟩;λa0 a1 r h q m vs hv=>SC.wva hv (cY func47 call47 ntmps47 results47 rfl (wk (.c .z (.c .z (.j 2 11 43 [.v 77 Bool λy=>.lb y] [6,7,11,12] [6] [] none .z .z))) q m (eU.eq_1 _ _ _ _) h))
theorem wV:∀n,nU (iW n)
 | 0=>λ_ _ _ h=>dH h
 | n+1=>Cy (wV n) n
instance:mN 47 (∀n,nU (iW n)):=⟨wV⟩
def uQ (f:aP->aD->Option (List aM)):Prop:=∀a0 a1 r,f a0 a1=some r->∀(q:Pa) (m:M) (vs:List V) (P0:Pa) (W:Pa),vs.map V.weak1=[.ptr P0 0,.agg ((aD.C a1))]/\m.blk P0=some ([.vec W 1 a0.cQ.length,.list .self (a0.fS.map (cI .u32)),.list .self (a0.cB.map (cI .u32))])/\m.hp W=some (a0.cQ.map (cL aM.C)).flatten->SC prog 23 vs q m (λv Y=>v=.list .none (r.map aM.C)/\Y=m)
theorem uB (n:Nat):uQ (fI n):=λa0 a1 r h q m vs P0 W ⟨hv,w0,hkW⟩=>SC.wva hv (SC.ac w0 λ_ _ _=>have hW0:=wX hkW;cY func23 call23 ntmps23 results23 rfl (wk (.j 2 2 14 [.v 18 Bool λy=>.lb y] [0,5] [0] [] none .z .z) q m (fI.eq_1 _ _ _) h))
instance:mN 23 (∀n,uQ (fI n)):=⟨uB⟩
def wR (f:Int->Int->Option Int):Prop:=∀a0 a1 r,f a0 a1=some r->AQ prog 114 [.lit (.int .u64 a0),.lit (.int .u64 a1)] (.lit (.int .u64 r))
theorem Dw:wR (eP):=λa0 a1 r h q m vs hv=>SC.wva hv (cY func114 call114 ntmps114 results114 rfl (wk .z q m (eP.eq_1 _ _) h))
instance:mN 114 (wR eP):=⟨Dw⟩
def vN (f:Int->Int->Int->Int->Int->Option (Int × Int)):Prop:=∀a0 a1 a2 a3 a4 r,f a0 a1 a2 a3 a4=some r->AQ prog 76 [.li a0,.lit (.int .u64 a1),.lit (.int .u64 a2),.lit (.int .u64 a3),.lit (.int .u64 a4)] (.tup [.lit (.int .u64 r.1),.lit (.int .u64 r.2)])
theorem Cw:vN (nS):=λa0 a1 a2 a3 a4 r h q m vs hv=>SC.wva hv (cY func76 call76 ntmps76 results76 rfl (wk (.c .z (.j 2 4 14 [.v 26 Bool λy=>.lb y] [0,1,2,3,4,12] [] [] none .z (.c .z (.j 2 6 21 [.v 39 Bool λy=>.lb y] [0,1,2,3,4,12] [] [] none .z (.c .z (.j 2 8 30 [.v 54 Bool λy=>.lb y] [0,1,2,3,4,12] [] [] none .z (.c .z (.c (.j 2 12 39 [.v 68 Bool λy=>.lb y] [0,1,2,3,4,12] [] [] none .z (.c .z (.c .z (.j 2 16 47 [.v 77 Bool λy=>.lb y] [0,1,2,3,4,12] [] [] none .z .z)))) (.j 2 12 38 [.v 68 Bool λy=>.lb y] [0,1,2,3,4,12] [] [] none .z (.c .z (.c .z (.j 2 16 46 [.v 77 Bool λy=>.lb y] [0,1,2,3,4,12] [] [] none .z .z)))))))))))) q m (nS.eq_1 _ _ _ _ _) h))
instance:mN 76 (vN nS):=⟨Cw⟩
def nT (f:(List aM)->Int->(List Int)->(List Int)->Option (Int × Int × Int)):Prop:=∀a0 a1 a2 a3 r,f a0 a1 a2 a3=some r->AQ prog 48 [.list .none (a0.map aM.C),.li a1,.list .none (a2.map (cI .u32)),.list .none (a3.map (cI .u32))] (.tup [.lit (.int .u64 r.1),.lit (.int .u64 r.2.1),.li r.2.2])
theorem Cx {kH} (CX:nT kH) (n:Nat):nT (eT kH n):=haveI:mN 48 (nT kH):=⟨CX⟩;λa0 a1 a2 a3 r h q m vs hv=>SC.wva hv (cY func48 call48 ntmps48 results48 rfl (wk .z q m (eT.eq_1 _ _ _ _ _ _) h))
theorem wT:∀n,nT (gU n)
 | 0=>λ_ _ _ _ _ h=>dH h
 | n+1=>Cx (wT n) n
instance:mN 48 (∀n,nT (gU n)):=⟨wT⟩
def zX (f:aP->aA->Option (Bool × aP)):Prop:=∀a0 a1 r,f a0 a1=some r->∀(q:Pa) (m:M) (vs:List V) (P0:Pa) (W:Pa),vs.map V.weak1=[.ptr P0 0,.agg ((aA.C a1))]/\m.blk P0=some ([.vec W 1 a0.cQ.length,.list .self (a0.fS.map (cI .u32)),.list .self (a0.cB.map (cI .u32))])/\m.hp W=some (a0.cQ.map (cL aM.C)).flatten->SC prog 24 vs q m (λv Y=>∃vr,v=.lb r.1/\Y=m.ck P0 ([.vec W 1 r.2.cQ.length,.list .self (r.2.fS.map (cI .u32)),.list .self (r.2.cB.map (cI .u32))]) (lE m.hp W (r.2.cQ.map (cL aM.C)).flatten) vr)
theorem gQ (n:Nat):zX (gM n):=λa0 a1 r h q m vs P0 W ⟨hv,w0,hkW⟩=>SC.wva hv (SC.ac w0 λ_ _ _=>have hW0:=wX hkW;cY func24 call24 ntmps24 results24 rfl (wk (.j 2 2 24 [.v 32 Bool λy=>.lb y] [0,3,5,6] [0,3] [] (some P0) .z .z) q m (gM.eq_1 _ _ _) h))
def pK (f:aP->(List aA)->Option (Bool × aP)):Prop:=∀a0 a1 r,f a0 a1=some r->∀(q:Pa) (m:M) (vs:List V) (P0:Pa) (W:Pa),vs.map V.weak1=[.ptr P0 0,.list .none (a1.map aA.C)]/\m.blk P0=some ([.vec W 1 a0.cQ.length,.list .self (a0.fS.map (cI .u32)),.list .self (a0.cB.map (cI .u32))])/\m.hp W=some (a0.cQ.map (cL aM.C)).flatten->SC prog 9 vs q m (λv Y=>∃vr,v=.lb r.1/\Y=m.ck P0 ([.vec W 1 r.2.cQ.length,.list .self (r.2.fS.map (cI .u32)),.list .self (r.2.cB.map (cI .u32))]) (lE m.hp W (r.2.cQ.map (cL aM.C)).flatten) vr)
theorem xM {bS} (cF:pK bS) (n:Nat):pK (jK bS n):=by
 rintro a0 a1 r h q m vs P0 W ⟨hv,w0,hkW⟩;refine SC.wv hv ?_;refine SC.apart w0 λu0=>?_;have hW0:=wX hkW;have l0:=Gl w0
 try simp only [go_sem,seval] at w0 l0
 refine sS func9 call9 ntmps9 results9 ?_;unfold jK at h;refine aO (cX λK hK=>?_);simp only [go_sem]
 first | apply hK | (refine ⟨by omega,?_⟩;apply hK)
 simp only [aK];refine aO (aO (cX λK hK=>?_));simp only [go_sem,seval]
 first | apply hK | (refine ⟨by omega,?_⟩;apply hK)
 simp only [aK];refine cU ?_;obtain ⟨y4,j4,h⟩:=aF h;refine tQ (λc X Y=>∃v2 v3,dM bS n a1 c v2 v3=some y4/\X 0=.ptr P0 0/\X 7=.list .none (a1.map aA.C)/\X 8=.li (a1.length:Int)/\X 9=.li v2/\Y.blk P0=some ([.vec W 1 v3.cQ.length,.list .self (v3.fS.map (cI .u32)),.list .self (v3.cB.map (cI .u32))])/\Y.gl=m.gl/\Fr q P0 m Y/\Y.hp=lE m.hp W (v3.cQ.map (cL aM.C)).flatten) n ⟨(0:Int),a0,j4,?_⟩ ?_
 ·simp only [go_sem,seval,hW0,w0]
 rintro i1 c5 E6 m7 ⟨v2,v3,j4,e8⟩ _
 rcases c5 with _ | c5
 ·cases j4
 rw [dM] at j4;refine aO (cX λK hK=>?_);simp only [go_sem,e8]
 first | apply hK | (refine ⟨by omega,?_⟩;apply hK)
 simp only [aK];refine aO (dI j4 (λc9 j4=>?_) (λc9 j4=>?_))
 ·refine bP ?_
  refine aO ?_;obtain ⟨y10,j10,j4⟩:=aF j4;refine tK 90 (λX Y=>∃(y10a:aP),y10=.inl y10a/\X 0=.ptr P0 0/\X 7=.list .none (a1.map aA.C)/\X 8=.li (a1.length:Int)/\X 9=.li v2/\Y.blk P0=some ([.vec W 1 y10a.cQ.length,.list .self (y10a.fS.map (cI .u32)),.list .self (y10a.cB.map (cI .u32))])/\Y.gl=m.gl/\Fr q P0 m Y/\Y.hp=lE m.hp W (y10a.cQ.map (cL aM.C)).flatten) ?_ ?_
  ·refine cU (aO ?_);obtain ⟨x11,h16,j10⟩:=aF j10;obtain ⟨f13,f14,f15⟩:=bI h16;refine cX λK hK=>?_;simp only [go_sem,seval,f13,f14,f15,e8]
   first | apply hK | (refine ⟨by omega,?_⟩;apply hK)
   simp only [aK];refine aO (aO ?_);obtain ⟨y17,j17,j10⟩:=aF j10;refine tK 50 (λX Y=>X 0=.ptr P0 0/\X 6=.ptr (3::i1::4::q) 0/\X 7=.list .none (a1.map aA.C)/\X 8=.li (a1.length:Int)/\X 9=.li v2/\X 57=.lb y17/\Y.blk P0=some ([.vec W 1 v3.cQ.length,.list .self (v3.fS.map (cI .u32)),.list .self (v3.cB.map (cI .u32))])/\Y.blk (3::i1::4::q)=some ((aA.C x11))/\Y.gl=m.gl/\Fr q P0 m Y/\Y.hp=lE m.hp W (v3.cQ.map (cL aM.C)).flatten) ?_ ?_
   ·rcases jR j17 with ⟨c18,j17⟩ | ⟨c18,j17⟩
    ·
     rcases jR j17 with ⟨c19,j17⟩ | ⟨c19,j17⟩
     ·refine dZ λK hK=>?_;simp only [go_sem,seval,c18,c19]
      first | apply hK | (refine ⟨by omega,?_⟩;apply hK)
      simp only [aK];obtain rfl:=aU j17;exact jD
     ·
      rcases jR j17 with ⟨c20,j17⟩ | ⟨c20,j17⟩
      ·refine dZ λK hK=>?_;simp only [go_sem,seval,pU u0,c18,c19,c20,e8]
       first | apply hK | (refine ⟨by omega,?_⟩;apply hK)
       simp only [aK];obtain rfl:=aU j17;exact jD
      ·
       rcases jR j17 with ⟨c21,j17⟩ | ⟨c21,j17⟩
       ·refine dZ λK hK=>?_;simp only [go_sem,seval,pU u0,c18,c19,c20,c21,e8]
        first | apply hK | (refine ⟨by omega,?_⟩;apply hK)
        simp only [aK];obtain rfl:=aU j17;exact jD
       ·
        rcases jR j17 with ⟨c22,j17⟩ | ⟨c22,j17⟩
        ·refine dZ λK hK=>?_;simp only [go_sem,seval,pU u0,c18,c19,c20,c21,c22,e8]
         first | apply hK | (refine ⟨by omega,?_⟩;apply hK)
         simp only [aK];obtain rfl:=aU j17;exact jD
        ·refine dZ λK hK=>?_;simp only [go_sem,seval,pU u0,c18,c19,c20,c21,c22,e8]
         first | apply hK | (refine ⟨by omega,?_⟩;apply hK)
         simp only [aK];obtain rfl:=aU j17;exact jD
    ·
     rcases jR j17 with ⟨c23,j17⟩ | ⟨c23,j17⟩
     ·
      rcases jR j17 with ⟨c24,j17⟩ | ⟨c24,j17⟩
      ·refine dZ λK hK=>?_;simp only [go_sem,seval,c18,c23,c24]
       first | apply hK | (refine ⟨by omega,?_⟩;apply hK)
       simp only [aK];obtain rfl:=aU j17;exact jD
      ·
       rcases jR j17 with ⟨c25,j17⟩ | ⟨c25,j17⟩
       ·refine dZ λK hK=>?_;simp only [go_sem,seval,pU u0,c18,c23,c24,c25,e8]
        first | apply hK | (refine ⟨by omega,?_⟩;apply hK)
        simp only [aK];obtain rfl:=aU j17;exact jD
       ·refine dZ λK hK=>?_;simp only [go_sem,seval,pU u0,c18,c23,c24,c25,e8]
        first | apply hK | (refine ⟨by omega,?_⟩;apply hK)
        simp only [aK];obtain rfl:=aU j17;exact jD
     ·refine dZ λK hK=>?_;simp only [go_sem,seval,c18,c23]
      first | apply hK | (refine ⟨by omega,?_⟩;apply hK)
      simp only [aK];obtain rfl:=aU j17;exact jD
   ·intro E26 m27 e28 _;refine dI j10 (λc29 j10=>?_) (λc29 j10=>?_)
    ·refine aO (cX λK hK=>?_);simp only [go_sem,seval]
     first | apply hK | (refine ⟨by omega,?_⟩;apply hK)
     simp only [aK];refine cD ?_
     try simp only [cM,iT]
     obtain rfl:=aU j10;simp only [Pu] at j4;obtain rfl:=aU j4;simp only [Pu] at h;cases h;refine ⟨by simp,?_⟩;simp only [go_sem,seval];exact HT (by simp only [go_sem,e28]) u0 (by simp only [go_sem,e28]) (by simp only [go_sem,e28])
    ·refine bP ?_
     refine aO (aO (cX λK hK=>?_));simp only [go_sem,seval,e28]
     first | apply hK | (refine ⟨by omega,?_⟩;apply hK)
     simp only [aK];refine dI j10 (λc30 j10=>?_) (λc30 j10=>?_)
     ·obtain ⟨x31,h37,j10⟩:=aF j10;obtain ⟨f34,f35,f36⟩:=bI h37;have f38:x11.aL[0]? = some x31:=f36;obtain ⟨x32,h39,j10⟩:=aF j10;obtain ⟨x33,h43,j10⟩:=aF j10;obtain ⟨f40,f41,f42⟩:=bI h43;obtain ⟨w44,d45⟩:=GC (f:=(cL aM.C)) (sz:=1) (λ_=>rfl) f42;simp only [go_sem] at d45;have d47:=Il (f:=(cL aM.C)) (sz:=1) (λ_=>rfl) (l:=v3.cQ) (i:=x11.eB.toNat) (by have:=f40;have:=f41;omega) x32;simp only [go_sem] at d47;have f48:=Nm (f:=(cL aM.C)) (sz:=1) (l:=v3.cQ) (λ_=>rfl) (i:=x11.eB.toNat) (by have:=f40;have:=f41;omega);simp only [go_sem] at f48;refine dZ λK hK=>?_;simp only [go_sem,seval,c30,f34,f35,f38,e28];refine SC.bA (uB n v3 x31 _ h39 _ _ _ P0 W) ?_;simp only [go_sem,seval,gG,f40,f41,d47,f48,e28]
      first | apply hK | (refine ⟨by omega,?_⟩;apply hK)
      simp only [aK];refine aO ?_;obtain ⟨y49,j49,j10⟩:=aF j10;refine tK 90 (λX Y=>X 0=.ptr P0 0/\X 7=.list .none (a1.map aA.C)/\X 8=.li (a1.length:Int)/\X 9=.li v2/\X 96=.lb y49.1/\Y.blk P0=some ([.vec W 1 y49.2.cQ.length,.list .self (y49.2.fS.map (cI .u32)),.list .self (y49.2.cB.map (cI .u32))])/\Y.gl=m.gl/\Fr q P0 m Y/\Y.hp=lE m.hp W (y49.2.cQ.map (cL aM.C)).flatten) ?_ ?_
      ·rcases jR j49 with ⟨c50,j49⟩ | ⟨c50,j49⟩
       ·obtain ⟨x51,h52,j49⟩:=aF j49
        rcases jR j49 with ⟨c53,j49⟩ | ⟨c53,j49⟩
        ·refine cX λK hK=>?_;simp only [go_sem,seval,c50,e28];refine SC.mono (gQ n ({ v3 with cQ:=(v3.cQ.set x11.eB.toNat x32) }:aP) x11 _ h52 _ _ _ P0 W (by simp only [go_sem,seval,vK,e28])) ?_;rintro _ _ ⟨vr_x51,rfl,rfl⟩;simp only [go_sem,seval,c53]
         first | apply hK | (refine ⟨by omega,?_⟩;apply hK)
         simp only [aK];obtain rfl:=aU j49;exact jD
        ·obtain ⟨x54,h55,j49⟩:=aF j49
         rcases jR j49 with ⟨c56,j49⟩ | ⟨c56,j49⟩
         ·refine cX λK hK=>?_;simp only [go_sem,seval,c50,e28];refine SC.mono (gQ n ({ v3 with cQ:=(v3.cQ.set x11.eB.toNat x32) }:aP) x11 _ h52 _ _ _ P0 W (by simp only [go_sem,seval,vK,e28])) ?_;rintro _ _ ⟨vr_x51,rfl,rfl⟩;simp only [go_sem,seval,pU u0,c53,e28];refine SC.mono (cF x51.2 x11.bH _ h55 _ _ _ P0 W (by simp only [go_sem,seval])) ?_;rintro _ _ ⟨vr_x54,rfl,rfl⟩;simp only [go_sem,seval,c56]
          first | apply hK | (refine ⟨by omega,?_⟩;apply hK)
          simp only [aK];obtain rfl:=aU j49;exact jD
         ·obtain ⟨x57,h58,j49⟩:=aF j49;refine cX λK hK=>?_;simp only [go_sem,seval,c50,e28];refine SC.mono (gQ n ({ v3 with cQ:=(v3.cQ.set x11.eB.toNat x32) }:aP) x11 _ h52 _ _ _ P0 W (by simp only [go_sem,seval,vK,e28])) ?_;rintro _ _ ⟨vr_x51,rfl,rfl⟩;simp only [go_sem,seval,pU u0,c53,e28];refine SC.mono (cF x51.2 x11.bH _ h55 _ _ _ P0 W (by simp only [go_sem,seval])) ?_;rintro _ _ ⟨vr_x54,rfl,rfl⟩;simp only [go_sem,seval,pU u0,c56,e28];refine SC.mono (cF x54.2 x11.eN _ h58 _ _ _ P0 W (by simp only [go_sem,seval])) ?_;rintro _ _ ⟨vr_x57,rfl,rfl⟩;simp only [go_sem,seval]
          first | apply hK | (refine ⟨by omega,?_⟩;apply hK)
          simp only [aK];obtain rfl:=aU j49;exact jD
       ·obtain ⟨x59,h60,j49⟩:=aF j49
        rcases jR j49 with ⟨c61,j49⟩ | ⟨c61,j49⟩
        ·refine cX λK hK=>?_;simp only [go_sem,seval,c50,e28];refine SC.mono (cF ({ v3 with cQ:=(v3.cQ.set x11.eB.toNat x32) }:aP) x11.bH _ h60 _ _ _ P0 W (by simp only [go_sem,seval,vK,e28])) ?_;rintro _ _ ⟨vr_x59,rfl,rfl⟩;simp only [go_sem,seval,c61]
         first | apply hK | (refine ⟨by omega,?_⟩;apply hK)
         simp only [aK];obtain rfl:=aU j49;exact jD
        ·obtain ⟨x62,h63,j49⟩:=aF j49;refine cX λK hK=>?_;simp only [go_sem,seval,c50,e28];refine SC.mono (cF ({ v3 with cQ:=(v3.cQ.set x11.eB.toNat x32) }:aP) x11.bH _ h60 _ _ _ P0 W (by simp only [go_sem,seval,vK,e28])) ?_;rintro _ _ ⟨vr_x59,rfl,rfl⟩;simp only [go_sem,seval,pU u0,c61,e28];refine SC.mono (cF x59.2 x11.eN _ h63 _ _ _ P0 W (by simp only [go_sem,seval])) ?_;rintro _ _ ⟨vr_x62,rfl,rfl⟩;simp only [go_sem,seval]
         first | apply hK | (refine ⟨by omega,?_⟩;apply hK)
         simp only [aK];obtain rfl:=aU j49;exact jD
      ·intro E64 m65 e66 _;refine dI j10 (λc67 j10=>?_) (λc67 j10=>?_)
       ·refine aO (cX λK hK=>?_);simp only [go_sem,seval]
        first | apply hK | (refine ⟨by omega,?_⟩;apply hK)
        simp only [aK];refine cD ?_
        try simp only [cM,iT]
        obtain rfl:=aU j10;simp only [Pu] at j4;obtain rfl:=aU j4;simp only [Pu] at h;cases h;refine ⟨by simp,?_⟩;simp only [go_sem,seval];exact HT (by simp only [go_sem,e66]) u0 (by simp only [go_sem,e66]) (by simp only [go_sem,e66])
       ·refine bP ?_
        try simp only [aK,bU]
        obtain rfl:=aU j10;refine ⟨by decide,y49.2,rfl,?_⟩;simp only [go_sem,e66]
     ·refine bP ?_
      refine aO ?_;obtain ⟨y68,j68,j10⟩:=aF j10;refine tK 76 (λX Y=>X 0=.ptr P0 0/\X 7=.list .none (a1.map aA.C)/\X 8=.li (a1.length:Int)/\X 9=.li v2/\X 96=.lb y68.1/\Y.blk P0=some ([.vec W 1 y68.2.cQ.length,.list .self (y68.2.fS.map (cI .u32)),.list .self (y68.2.cB.map (cI .u32))])/\Y.gl=m.gl/\Fr q P0 m Y/\Y.hp=lE m.hp W (y68.2.cQ.map (cL aM.C)).flatten) ?_ ?_
      ·rcases jR j68 with ⟨c69,j68⟩ | ⟨c69,j68⟩
       ·obtain ⟨x70,h71,j68⟩:=aF j68
        rcases jR j68 with ⟨c72,j68⟩ | ⟨c72,j68⟩
        ·refine cX λK hK=>?_;simp only [go_sem,seval,c30,c69,e28];refine SC.mono (gQ n v3 x11 _ h71 _ _ _ P0 W (by simp only [go_sem,seval,e28])) ?_;rintro _ _ ⟨vr_x70,rfl,rfl⟩;simp only [go_sem,seval,c72,e28]
         first | apply hK | (refine ⟨by omega,?_⟩;apply hK)
         simp only [aK];obtain rfl:=aU j68;exact jD
        ·obtain ⟨x73,h74,j68⟩:=aF j68
         rcases jR j68 with ⟨c75,j68⟩ | ⟨c75,j68⟩
         ·refine cX λK hK=>?_;simp only [go_sem,seval,c30,c69,e28];refine SC.mono (gQ n v3 x11 _ h71 _ _ _ P0 W (by simp only [go_sem,seval,e28])) ?_;rintro _ _ ⟨vr_x70,rfl,rfl⟩;simp only [go_sem,seval,pU u0,c72,e28];refine SC.mono (cF x70.2 x11.bH _ h74 _ _ _ P0 W (by simp only [go_sem,seval])) ?_;rintro _ _ ⟨vr_x73,rfl,rfl⟩;simp only [go_sem,seval,c75]
          first | apply hK | (refine ⟨by omega,?_⟩;apply hK)
          simp only [aK];obtain rfl:=aU j68;exact jD
         ·obtain ⟨x76,h77,j68⟩:=aF j68;refine cX λK hK=>?_;simp only [go_sem,seval,c30,c69,e28];refine SC.mono (gQ n v3 x11 _ h71 _ _ _ P0 W (by simp only [go_sem,seval,e28])) ?_;rintro _ _ ⟨vr_x70,rfl,rfl⟩;simp only [go_sem,seval,pU u0,c72,e28];refine SC.mono (cF x70.2 x11.bH _ h74 _ _ _ P0 W (by simp only [go_sem,seval])) ?_;rintro _ _ ⟨vr_x73,rfl,rfl⟩;simp only [go_sem,seval,pU u0,c75,e28];refine SC.mono (cF x73.2 x11.eN _ h77 _ _ _ P0 W (by simp only [go_sem,seval])) ?_;rintro _ _ ⟨vr_x76,rfl,rfl⟩;simp only [go_sem,seval]
          first | apply hK | (refine ⟨by omega,?_⟩;apply hK)
          simp only [aK];obtain rfl:=aU j68;exact jD
       ·obtain ⟨x78,h79,j68⟩:=aF j68
        rcases jR j68 with ⟨c80,j68⟩ | ⟨c80,j68⟩
        ·refine cX λK hK=>?_;simp only [go_sem,seval,c30,c69,e28];refine SC.mono (cF v3 x11.bH _ h79 _ _ _ P0 W (by simp only [go_sem,seval,e28])) ?_;rintro _ _ ⟨vr_x78,rfl,rfl⟩;simp only [go_sem,seval,c80,e28]
         first | apply hK | (refine ⟨by omega,?_⟩;apply hK)
         simp only [aK];obtain rfl:=aU j68;exact jD
        ·obtain ⟨x81,h82,j68⟩:=aF j68;refine cX λK hK=>?_;simp only [go_sem,seval,c30,c69,e28];refine SC.mono (cF v3 x11.bH _ h79 _ _ _ P0 W (by simp only [go_sem,seval,e28])) ?_;rintro _ _ ⟨vr_x78,rfl,rfl⟩;simp only [go_sem,seval,pU u0,c80,e28];refine SC.mono (cF x78.2 x11.eN _ h82 _ _ _ P0 W (by simp only [go_sem,seval])) ?_;rintro _ _ ⟨vr_x81,rfl,rfl⟩;simp only [go_sem,seval]
         first | apply hK | (refine ⟨by omega,?_⟩;apply hK)
         simp only [aK];obtain rfl:=aU j68;exact jD
      ·intro E83 m84 e85 _;refine dI j10 (λc86 j10=>?_) (λc86 j10=>?_)
       ·refine aO (cX λK hK=>?_);simp only [go_sem,seval]
        first | apply hK | (refine ⟨by omega,?_⟩;apply hK)
        simp only [aK];refine cD ?_
        try simp only [cM,iT]
        obtain rfl:=aU j10;simp only [Pu] at j4;obtain rfl:=aU j4;simp only [Pu] at h;cases h;refine ⟨by simp,?_⟩;simp only [go_sem,seval];exact HT (by simp only [go_sem,e85]) u0 (by simp only [go_sem,e85]) (by simp only [go_sem,e85])
       ·refine bP ?_
        try simp only [aK,bU]
        obtain rfl:=aU j10;refine ⟨by decide,y68.2,rfl,?_⟩;simp only [go_sem,e85]
  ·rintro E87 m88 ⟨y10a,rfl,e89⟩ _;simp only [xdn] at j4;refine cX λK hK=>?_;simp only [go_sem,seval,e89]
   first | apply hK | (refine ⟨by omega,?_⟩;apply hK)
   simp only [aK];refine ⟨c5,JO _,(i64.wrap (v2+(1:Int))),y10a,j4,?_⟩;simp only [go_sem,seval,e89]
 ·refine jJ ?_
  try simp only [dB,cP,↓reduceIte,aK]
  obtain rfl:=aU j4;simp only [xdn] at h;refine aO (cX λK hK=>?_);simp only [go_sem,seval,c9]
  first | apply hK | (refine ⟨by omega,?_⟩;apply hK)
  simp only [aK];refine cD ?_;cases h;refine ⟨by simp,?_⟩;simp only [go_sem,seval];exact HT (by simp only [go_sem,e8]) u0 (by simp only [go_sem,e8]) (by simp only [go_sem,e8])
theorem jF:∀n,pK (dQ n)
 | 0=>λ_ _ _ h=>dH h
 | n+1=>xM (jF n) n
def qH (f:aH->Option (List aM)):Prop:=∀a0 r,f a0=some r->AQ prog 10 [.agg ((aH.C a0))] (.list .none (r.map aM.C))
theorem BN {gO} (Cf:qH gO) (n:Nat):qH (nB gO n):=haveI:mN 10 (qH gO):=⟨Cf⟩;λa0 r h q m vs hv=>SC.wva hv (cY func10 call10 ntmps10 results10 rfl (wk (.j 2 1 11 [.v 14 Bool λy=>.lb y] [1] [1] [] none .z (.c .z (.s 3 (.l [.o 3 (List aM) λy=>(y.map aM.C),.v 27 Int λy=>.li y] [25,26] [] [] none .z .z)))) q m (nB.eq_1 _ _ _) h))
theorem vO:∀n,qH (gJ n)
 | 0=>λ_ _ h=>dH h
 | n+1=>BN (vO n) n
def tN (f:bW->Int->Option Bool):Prop:=∀a0 a1 r,f a0 a1=some r->∀(q:Pa) (m:M) (vs:List V),vs.map V.weak1=[.list .none (qF a0),.li a1]/\(m.hp=λ_=>none)/\m.gl 0=.eptr [(cA bC.C cK)] 0 0/\m.gl 1=.eptr [(cA cS fO)] 0 0/\m.gl 2=.eptr [(cA cS cC)] 0 0/\m.gl 3=.eptr [(cA bO.C eF)] 0 0/\m.gl 4=.eptr [[.lw 0,.lw 4294967295]] 0 0/\m.gl 6=.eptr [(cA (cA cS) cW)] 0 0->SC prog 3 vs q m (λv Y=>v=.lb r/\Y=m)
theorem zW (n:Nat):tN (kP n):=by
 rintro a0 a1 r h q m vs ⟨hv,hgh,hg0,hg1,hg2,hg3,hg4,hg6⟩;refine SC.wv hv ?_;refine SC.freshH λhfq=>?_;refine SC.hpq ?_;refine sS func3 call3 ntmps3 results3 ?_;unfold kP at h;refine aO (cX λK hK=>?_);simp only [go_sem]
 first | apply hK | (refine ⟨by omega,?_⟩;apply hK)
 simp only [aK];refine aO (aO ?_);obtain ⟨x1,h2,h⟩:=aF h;refine cX λK hK=>?_;simp only [go_sem];refine SC.bA (Cz n _ h2 _ _ _) ?_;simp only [go_sem,seval]
 first | apply hK | (refine ⟨by omega,?_⟩;apply hK)
 simp only [aK];refine dI h (λc3 h=>?_) (λc3 h=>?_)
 ·refine aO (cX λK hK=>?_);simp only [go_sem,seval,c3]
  first | apply hK | (refine ⟨by omega,?_⟩;apply hK)
  simp only [aK];refine cD ?_
  try simp only [cM]
  cases h;refine ⟨by simp,?_⟩;simp only [go_sem,seval,bV,GX,Ed hgh,hgh]
 ·refine bP ?_
  refine aO ?_;obtain ⟨x4,h7,h⟩:=aF h;refine cX λK hK=>?_;simp only [go_sem,seval,c3];refine SC.bA (zH n a0 a1 _ h7 _ _ _) ?_;simp only [go_sem,seval]
  first | apply hK | (refine ⟨by omega,?_⟩;apply hK)
  simp only [aK];refine aO (aO (cX λK hK=>?_));simp only [go_sem,seval]
  first | apply hK | (refine ⟨by omega,?_⟩;apply hK)
  simp only [aK];refine dI h (λc8 h=>?_) (λc8 h=>?_)
  ·refine aO (cX λK hK=>?_);simp only [go_sem,seval,c8]
   first | apply hK | (refine ⟨by omega,?_⟩;apply hK)
   simp only [aK];refine cD ?_
   try simp only [cM]
   cases h;refine ⟨by simp,?_⟩;simp only [go_sem,seval,bT,bV,GX,Ed hgh,hgh]
  ·refine bP ?_
   refine aO ?_;obtain ⟨x9,h11,h⟩:=aF h;refine cX λK hK=>?_;simp only [go_sem,seval,c8];refine SC.bA (FL n x4.1 _ h11 _ _ _) ?_;simp only [go_sem,seval]
   first | apply hK | (refine ⟨by omega,?_⟩;apply hK)
   simp only [aK];refine aO (aO (cX λK hK=>?_));simp only [go_sem,seval]
   first | apply hK | (refine ⟨by omega,?_⟩;apply hK)
   simp only [aK];refine dI h (λc12 h=>?_) (λc12 h=>?_)
   ·refine aO (cX λK hK=>?_);simp only [go_sem,seval,c12]
    first | apply hK | (refine ⟨by omega,?_⟩;apply hK)
    simp only [aK];refine cD ?_
    try simp only [cM]
    cases h;refine ⟨by simp,?_⟩;simp only [go_sem,seval,bT,bV,GX,Ed hgh,hgh]
   ·refine bP ?_
    refine aO ?_;obtain ⟨⟨f15,f16⟩,h⟩:=bY h;refine vG λf17=>?_;have f13:m.hp (30::q)=none:=by have:=f17 30 (by omega);simpa only [go_sem,↓reduceIte,Nat.reduceEqDiff,Nat.reduceAdd,Nat.reduceMul,Nat.reduceLT,Nat.reduceLeDiff,reduceCtorEq,Int.reduceLE,Int.reduceLT,Int.reduceToNat,UInt8.reduceToNat,Ka hfq,Gw hfq,EH,GX,Ed hgh,c3,c8,c12,f15,f16,hgh,hg0,hg1,hg2,hg3,hg4,hg6] using this
    refine dZ λK hK=>?_;simp only [go_sem,seval,Ue,List.replicate_zero,Dq,gG,c12,f15,f16,hgh]
    first | apply hK | (refine ⟨by omega,?_⟩;apply hK)
    simp only [aK];refine RW (id:=(30::q)) (vs:=(List.replicate x4.1.aR.length [.nilv]).flatten) (vs':=((List.replicate x4.1.aR.length ([]:(List aM))).map (cL aM.C)).flatten) (by simp only [go_sem,seval]) (yH.mk (f:=(cL aM.C)) (z:=([]:(List aM))) (by rw [show (cL aM.C) ([]:(List aM))=[.list .none []] from rfl];exact ⟨.inr ⟨rfl,rfl⟩,trivial⟩) x4.1.aR.length) ?_;refine aO (aO (cX λK hK=>?_));simp only [go_sem,seval]
    first | apply hK | (refine ⟨by omega,?_⟩;apply hK)
    simp only [aK];refine cU ?_;obtain ⟨y21,j21,h⟩:=aF h;refine tQ (λc X Y=>∃v19 v20,fQ x4 c v19 v20=some y21/\X 5=.ptr (10::q) 0/\X 8=.ptr (22::q) 0/\X 10=.ptr (34::q) 0/\X 48=.li (min x4.1.aT (x4.1.aR.length:Int))/\X 49=.li v19/\Y.blk (22::q)=some ((bE.C x9.1))/\Y.blk (34::q)=some ([.vec (30::q) 1 v20.cQ.length,.list .self (v20.fS.map (cI .u32)),.list .self (v20.cB.map (cI .u32))])/\Y.blk (10::q)=some ((aQ.C x4.1))/\Y.gl=m.gl/\Y.hp=lE (λ_=>none) (30::q) (v20.cQ.map (cL aM.C)).flatten/\(m.back q Y).seth (λ_=>none)=m) n ⟨(0:Int),(aP.mk (List.replicate x4.1.aR.length ([]:(List aM))) [(0:Int),(0:Int),(0:Int),(0:Int)] [(4294967295:Int),(4294967295:Int),(4294967295:Int),(4294967295:Int)]),j21,?_⟩ ?_
    ·simp only [go_sem,seval,bT,bV,xdl,xJ,Ed hgh]
    rintro i18 c22 E23 m24 ⟨v19,v20,j21,e25⟩ _
    rcases c22 with _ | c22
    ·cases j21
    rw [fQ] at j21;refine aO (cX λK hK=>?_);simp only [go_sem,e25]
    first | apply hK | (refine ⟨by omega,?_⟩;apply hK)
    simp only [aK];refine aO (dI j21 (λc26 j21=>?_) (λc26 j21=>?_))
    ·refine bP ?_
     refine aO ?_;obtain ⟨y27,j27,j21⟩:=aF j21;refine tK 21 (λX Y=>X 5=.ptr (10::q) 0/\X 8=.ptr (22::q) 0/\X 10=.ptr (34::q) 0/\X 48=.li (min x4.1.aT (x4.1.aR.length:Int))/\X 49=.li v19/\Y.blk (22::q)=some ((bE.C x9.1))/\Y.blk (34::q)=some ([.vec (30::q) 1 y27.cQ.length,.list .self (y27.fS.map (cI .u32)),.list .self (y27.cB.map (cI .u32))])/\Y.blk (10::q)=some ((aQ.C x4.1))/\Y.gl=m.gl/\Y.hp=lE (λ_=>none) (30::q) (y27.cQ.map (cL aM.C)).flatten/\(m.back q Y).seth (λ_=>none)=m) ?_ ?_
     ·refine cU (aO (cX λK hK=>?_));simp only [go_sem,seval,c26,e25]
      first | apply hK | (refine ⟨by omega,?_⟩;apply hK)
      simp only [aK];refine aO ?_;obtain ⟨x28,h32,j27⟩:=aF j27;obtain ⟨f29,f30,f31⟩:=bI h32;refine cX λK hK=>?_;simp only [go_sem,seval,f29,f30,f31,e25]
      first | apply hK | (refine ⟨by omega,?_⟩;apply hK)
      simp only [aK];refine dI j27 (λc33 j27=>?_) (λc33 j27=>?_)
      ·obtain ⟨x34,h38,j27⟩:=aF j27;obtain ⟨f35,f36,f37⟩:=bI h38;obtain ⟨w39,d40⟩:=GC (f:=(cL aM.C)) (sz:=1) (λ_=>rfl) f37;simp only [go_sem] at d40;have d42:=Il (f:=(cL aM.C)) (sz:=1) (λ_=>rfl) (l:=v20.cQ) (i:=v19.toNat) (by have:=f35;have:=f36;omega) [(aM.mk (2:Int) (u32.wrap v19) (0:Int))];simp only [go_sem] at d42;have f43:=Nm (f:=(cL aM.C)) (sz:=1) (l:=v20.cQ) (λ_=>rfl) (i:=v19.toNat) (by have:=f35;have:=f36;omega);simp only [go_sem] at f43;refine cX λK hK=>?_;simp only [go_sem,seval,gG,f29,c33,f36,d42,f43,e25]
       first | apply hK | (refine ⟨by omega,?_⟩;apply hK)
       simp only [aK,bU];obtain rfl:=aU j27;refine ⟨by decide,?_⟩;simp only [go_sem,seval,vK,xJ,e25]
      ·refine bP ?_
       try simp only [aK,bU]
       obtain rfl:=aU j27;exact jD
     ·intro E44 m45 e46 _;refine cX λK hK=>?_;simp only [go_sem,seval,e46]
      first | apply hK | (refine ⟨by omega,?_⟩;apply hK)
      simp only [aK];refine ⟨c22,JO _,(i64.wrap (v19+(1:Int))),y27,j21,?_⟩;simp only [go_sem,seval,e46]
    ·refine jJ ?_
     try simp only [dB,cP,↓reduceIte,aK]
     obtain rfl:=aU j21;refine aO (aO ?_);obtain ⟨y47,j47,h⟩:=aF h;refine tK 82 (λX Y=>X 8=.ptr (22::q) 0/\X 10=.ptr (34::q) 0/\X 107=.lb y47.1/\Y.blk (22::q)=some ((bE.C x9.1))/\Y.blk (34::q)=some ([.vec (30::q) 1 y47.2.cQ.length,.list .self (y47.2.fS.map (cI .u32)),.list .self (y47.2.cB.map (cI .u32))])/\Y.gl=m.gl/\Y.hp=lE (λ_=>none) (30::q) (y47.2.cQ.map (cL aM.C)).flatten/\(m.back q Y).seth (λ_=>none)=m) ?_ ?_
     ·obtain ⟨x48,h49,j47⟩:=aF j47
      rcases jR j47 with ⟨c50,j47⟩ | ⟨c50,j47⟩
      ·refine dZ λK hK=>?_;simp only [go_sem,seval,c26,e25];refine SC.mono (jF n v20 x4.1.bH _ h49 _ _ _ (34::q) (30::q) (by simp only [go_sem,seval,e25])) ?_;rintro _ _ ⟨vr_x48,rfl,rfl⟩;simp only [go_sem,seval,c50,e25]
       first | apply hK | (refine ⟨by omega,?_⟩;apply hK)
       simp only [aK];obtain rfl:=aU j47;exact jD
      ·
       rcases jR j47 with ⟨c51,j47⟩ | ⟨c51,j47⟩
       ·refine dZ λK hK=>?_;simp only [go_sem,seval,c26,e25];refine SC.mono (jF n v20 x4.1.bH _ h49 _ _ _ (34::q) (30::q) (by simp only [go_sem,seval,e25])) ?_;rintro _ _ ⟨vr_x48,rfl,rfl⟩;simp only [go_sem,seval,c50,c51,e25]
        first | apply hK | (refine ⟨by omega,?_⟩;apply hK)
        simp only [aK];obtain rfl:=aU j47;exact jD
       ·
        rcases jR j47 with ⟨c52,j47⟩ | ⟨c52,j47⟩
        ·refine dZ λK hK=>?_;simp only [go_sem,seval,c26,e25];refine SC.mono (jF n v20 x4.1.bH _ h49 _ _ _ (34::q) (30::q) (by simp only [go_sem,seval,e25])) ?_;rintro _ _ ⟨vr_x48,rfl,rfl⟩;simp only [go_sem,seval,c50,c51,c52,e25]
         first | apply hK | (refine ⟨by omega,?_⟩;apply hK)
         simp only [aK];obtain rfl:=aU j47;exact jD
        ·refine dZ λK hK=>?_;simp only [go_sem,seval,c26,e25];refine SC.mono (jF n v20 x4.1.bH _ h49 _ _ _ (34::q) (30::q) (by simp only [go_sem,seval,e25])) ?_;rintro _ _ ⟨vr_x48,rfl,rfl⟩;simp only [go_sem,seval,c50,c51,c52,e25]
         first | apply hK | (refine ⟨by omega,?_⟩;apply hK)
         simp only [aK];obtain rfl:=aU j47;exact jD
     ·intro E53 m54 e55 _;refine dI h (λc56 h=>?_) (λc56 h=>?_)
      ·refine aO (cX λK hK=>?_);simp only [go_sem,seval]
       first | apply hK | (refine ⟨by omega,?_⟩;apply hK)
       simp only [aK];refine cD ?_
       try simp only [cM]
       cases h;refine ⟨by simp,?_⟩;simp only [go_sem,seval,EH,e55,hgh]
      ·refine bP ?_
       refine aO (aO (cX λK hK=>?_));simp only [go_sem,seval,e55]
       first | apply hK | (refine ⟨by omega,?_⟩;apply hK)
       simp only [aK];refine cU ?_;obtain ⟨y59,j59,h⟩:=aF h;refine tQ (λc X Y=>∃v58,iB n x9 y47 c v58=some y59/\X 8=.ptr (22::q) 0/\X 10=.ptr (34::q) 0/\X 109=.list .none (x9.1.aX.map aH.C)/\X 110=.li (x9.1.aX.length:Int)/\X 111=.li v58/\Y.blk (22::q)=some ((bE.C x9.1))/\Y.blk (34::q)=some ([.vec (30::q) 1 y47.2.cQ.length,.list .self (y47.2.fS.map (cI .u32)),.list .self (y47.2.cB.map (cI .u32))])/\Y.gl=m.gl/\Y.hp=lE (λ_=>none) (30::q) (y47.2.cQ.map (cL aM.C)).flatten/\(m.back q Y).seth (λ_=>none)=m) n ⟨(0:Int),j59,?_⟩ ?_
       ·simp only [go_sem,seval,e55]
       rintro i57 c60 E61 m62 ⟨v58,j59,e63⟩ _
       rcases c60 with _ | c60
       ·cases j59
       rw [iB] at j59;refine aO (cX λK hK=>?_);simp only [go_sem,e63]
       first | apply hK | (refine ⟨by omega,?_⟩;apply hK)
       simp only [aK];refine aO (dI j59 (λc64 j59=>?_) (λc64 j59=>?_))
       ·refine bP ?_
        refine aO (cU (aO ?_));obtain ⟨x65,h70,j59⟩:=aF j59;obtain ⟨f67,f68,f69⟩:=bI h70;refine cX λK hK=>?_;simp only [go_sem,seval,f67,f68,f69,e63]
        first | apply hK | (refine ⟨by omega,?_⟩;apply hK)
        simp only [aK];refine aO ?_;obtain ⟨x71,h72,j59⟩:=aF j59;refine cX λK hK=>?_;simp only [go_sem,seval];refine SC.bA (vO n x65 _ h72 _ _ _) ?_;simp only [go_sem,seval]
        first | apply hK | (refine ⟨by omega,?_⟩;apply hK)
        simp only [aK];refine aO (aO ?_);obtain ⟨x73,h77,j59⟩:=aF j59;obtain ⟨f74,f75,f76⟩:=bI h77;obtain ⟨w78,d79⟩:=GC (f:=(cL aM.C)) (sz:=1) (λ_=>rfl) f76;simp only [go_sem] at d79;refine cX λK hK=>?_;simp only [go_sem,seval,f67,f75,f76,e63]
        first | apply hK | (refine ⟨by omega,?_⟩;apply hK)
        simp only [aK];refine dI j59 (λc81 j59=>?_) (λc81 j59=>?_)
        ·refine aO (cX λK hK=>?_);simp only [go_sem,seval,c81]
         first | apply hK | (refine ⟨by omega,?_⟩;apply hK)
         simp only [aK];refine cD ?_
         try simp only [cM,iT]
         obtain rfl:=aU j59;simp only [Pu] at h;cases h;refine ⟨by simp,?_⟩;simp only [go_sem,seval,bT,EH,e63,hgh]
        ·refine bP ?_
         refine aO (cX λK hK=>?_);simp only [go_sem,seval,c81]
         first | apply hK | (refine ⟨by omega,?_⟩;apply hK)
         simp only [aK];refine cU ?_;obtain ⟨y84,j84,j59⟩:=aF j59;refine tQ (λc X Y=>∃v83,iA x71 x73 c v83=some y84/\X 8=.ptr (22::q) 0/\X 10=.ptr (34::q) 0/\X 12=.li v58/\X 14=.list .none (x71.map aM.C)/\X 109=.list .none (x9.1.aX.map aH.C)/\X 110=.li (x9.1.aX.length:Int)/\X 111=.li v58/\X 130=.li (x71.length:Int)/\X 131=.li v83/\Y.blk (22::q)=some ((bE.C x9.1))/\Y.blk (34::q)=some ([.vec (30::q) 1 y47.2.cQ.length,.list .self (y47.2.fS.map (cI .u32)),.list .self (y47.2.cB.map (cI .u32))])/\Y.gl=m.gl/\Y.hp=lE (λ_=>none) (30::q) (y47.2.cQ.map (cL aM.C)).flatten/\(m.back q Y).seth (λ_=>none)=m) n ⟨(0:Int),j84,?_⟩ ?_
         ·simp only [go_sem,seval,bT,e63]
         rintro i82 c85 E86 m87 ⟨v83,j84,e88⟩ _
         rcases c85 with _ | c85
         ·cases j84
         rw [iA] at j84;refine aO (cX λK hK=>?_);simp only [go_sem,e88]
         first | apply hK | (refine ⟨by omega,?_⟩;apply hK)
         simp only [aK];refine aO (dI j84 (λc89 j84=>?_) (λc89 j84=>?_))
         ·refine bP ?_
          refine aO (cU (aO (cX λK hK=>?_)));simp only [go_sem,seval,c89,e88]
          first | apply hK | (refine ⟨by omega,?_⟩;apply hK)
          simp only [aK];refine aO ?_;obtain ⟨x90,h95,j84⟩:=aF j84;obtain ⟨f92,f93,f94⟩:=bI h95;obtain ⟨x91,h99,j84⟩:=aF j84;obtain ⟨f96,f97,f98⟩:=bI h99;refine dZ λK hK=>?_;simp only [go_sem,seval,f67,f75,f76,f92,f93,f94,f97,f98,e88]
          first | apply hK | (refine ⟨by omega,?_⟩;apply hK)
          simp only [aK];refine dI j84 (λc100 j84=>?_) (λc100 j84=>?_)
          ·refine aO (cX λK hK=>?_);simp only [go_sem,seval,c100]
           first | apply hK | (refine ⟨by omega,?_⟩;apply hK)
           simp only [aK];refine cD ?_
           try simp only [cM,iT]
           obtain rfl:=aU j84;simp only [Pu] at j59;obtain rfl:=aU j59;simp only [Pu] at h;cases h;refine ⟨by simp,?_⟩;simp only [go_sem,seval,EH,e88,hgh]
          ·refine bP ?_
           try simp only [aK,bU]
           refine cX λK hK=>?_;simp only [go_sem,seval,c100,e88]
           first | apply hK | (refine ⟨by omega,?_⟩;apply hK)
           simp only [aK];refine ⟨c85,JO _,(i64.wrap (v83+(1:Int))),j84,?_⟩;simp only [go_sem,seval,e88]
         ·refine jJ ?_
          try simp only [dB,cP,↓reduceIte,aK,bU]
          obtain rfl:=aU j84;simp only [xdn] at j59;refine cX λK hK=>?_;simp only [go_sem,seval,c89,e88]
          first | apply hK | (refine ⟨by omega,?_⟩;apply hK)
          simp only [aK];refine ⟨c60,JO _,(i64.wrap (v58+(1:Int))),j59,?_⟩;simp only [go_sem,seval,e88]
       ·refine jJ ?_
        try simp only [dB,cP,↓reduceIte,aK]
        obtain rfl:=aU j59;simp only [xdn] at h;refine aO (aO (cX λK hK=>?_));simp only [go_sem,seval,c64,e63]
        first | apply hK | (refine ⟨by omega,?_⟩;apply hK)
        simp only [aK];refine cU ?_;obtain ⟨y103,j103,h⟩:=aF h;refine tQ (λc X Y=>∃v102,fP y47 x9 c v102=some y103/\X 8=.ptr (22::q) 0/\X 10=.ptr (34::q) 0/\X 155=.li (y47.2.fS.length:Int)/\X 156=.li v102/\Y.blk (22::q)=some ((bE.C x9.1))/\Y.blk (34::q)=some ([.vec (30::q) 1 y47.2.cQ.length,.list .self (y47.2.fS.map (cI .u32)),.list .self (y47.2.cB.map (cI .u32))])/\Y.gl=m.gl/\Y.hp=lE (λ_=>none) (30::q) (y47.2.cQ.map (cL aM.C)).flatten/\(m.back q Y).seth (λ_=>none)=m) n ⟨(0:Int),j103,?_⟩ ?_
        ·simp only [go_sem,seval,e63]
        rintro i101 c104 E105 m106 ⟨v102,j103,e107⟩ _
        rcases c104 with _ | c104
        ·cases j103
        rw [fP] at j103;refine aO (cX λK hK=>?_);simp only [go_sem,e107]
        first | apply hK | (refine ⟨by omega,?_⟩;apply hK)
        simp only [aK];refine aO (dI j103 (λc108 j103=>?_) (λc108 j103=>?_))
        ·refine bP ?_
         refine aO (cU (aO (cX λK hK=>?_)));simp only [go_sem,seval,c108,e107]
         first | apply hK | (refine ⟨by omega,?_⟩;apply hK)
         simp only [aK];refine aO ?_;obtain ⟨y109,j109,j103⟩:=aF j103;refine tK 31 (λX Y=>X 8=.ptr (22::q) 0/\X 10=.ptr (34::q) 0/\X 155=.li (y47.2.fS.length:Int)/\X 156=.li v102/\X 186=.lb y109/\Y.blk (22::q)=some ((bE.C x9.1))/\Y.blk (34::q)=some ([.vec (30::q) 1 y47.2.cQ.length,.list .self (y47.2.fS.map (cI .u32)),.list .self (y47.2.cB.map (cI .u32))])/\Y.gl=m.gl/\Y.hp=lE (λ_=>none) (30::q) (y47.2.cQ.map (cL aM.C)).flatten/\(m.back q Y).seth (λ_=>none)=m) ?_ ?_
         ·obtain ⟨x110,h115,j109⟩:=aF j109;obtain ⟨f112,f113,f114⟩:=bI h115;obtain ⟨x111,h119,j109⟩:=aF j109;obtain ⟨f116,f117,f118⟩:=bI h119
          rcases jR j109 with ⟨c120,j109⟩ | ⟨c120,j109⟩
          ·refine dZ λK hK=>?_;simp only [go_sem,seval,f112,f113,f114,f117,f118,c120,e107]
           first | apply hK | (refine ⟨by omega,?_⟩;apply hK)
           simp only [aK];obtain rfl:=aU j109;exact jD
          ·obtain ⟨x121,h126,j109⟩:=aF j109;obtain ⟨f123,f124,f125⟩:=bI h126;obtain ⟨x122,h130,j109⟩:=aF j109;obtain ⟨f127,f128,f129⟩:=bI h130;refine dZ λK hK=>?_;simp only [go_sem,seval,f112,f113,f114,f117,f118,c120,f124,f125,f128,f129,e107]
           first | apply hK | (refine ⟨by omega,?_⟩;apply hK)
           simp only [aK];obtain rfl:=aU j109;exact jD
         ·intro E131 m132 e133 _;refine dI j103 (λc134 j103=>?_) (λc134 j103=>?_)
          ·refine aO (cX λK hK=>?_);simp only [go_sem,seval]
           first | apply hK | (refine ⟨by omega,?_⟩;apply hK)
           simp only [aK];refine cD ?_
           try simp only [cM,iT]
           obtain rfl:=aU j103;simp only [Pu] at h;cases h;refine ⟨by simp,?_⟩;simp only [go_sem,seval,EH,e133,hgh]
          ·refine bP ?_
           try simp only [aK,bU]
           refine cX λK hK=>?_;simp only [go_sem,seval,e133]
           first | apply hK | (refine ⟨by omega,?_⟩;apply hK)
           simp only [aK];refine ⟨c104,JO _,(i64.wrap (v102+(1:Int))),j103,?_⟩;simp only [go_sem,seval,e133]
        ·refine jJ ?_
         try simp only [dB,cP,↓reduceIte,aK]
         obtain rfl:=aU j103;simp only [xdn] at h;refine aO (cX λK hK=>?_);simp only [go_sem,seval,c108]
         first | apply hK | (refine ⟨by omega,?_⟩;apply hK)
         simp only [aK];refine cD ?_;cases h;refine ⟨by simp,?_⟩;simp only [go_sem,seval,EH,e107,hgh]
