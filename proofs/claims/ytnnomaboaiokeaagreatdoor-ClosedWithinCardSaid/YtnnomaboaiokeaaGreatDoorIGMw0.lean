import Derived.Test.YtnnomaboaiokeaaGreatDoorIH4
import Derived.Test.YtnnomaboaiokeaaGreatDoorIAw
namespace Go.Proofs.YtnnomaboaiokeaaGreatDoor.Abs
open Go.RowKit Tryz
open IntKind (i64 u32 u64 u8)
set_option linter.all false
set_option maxRecDepth 10000
set_option maxHeartbeats 2000000
open Tryz
instance:Ll bJ.C 2:=⟨λx=>by rw [bJ.C_eq];rfl⟩
instance:Ll bY.C 2:=⟨λx=>by rw [bY.C_eq];rfl⟩
instance:Sq eV 26:=⟨by decide⟩
instance:Sq cL 5:=⟨by decide⟩
instance:Sq dQ 15:=⟨by decide⟩
def IF (f:Int->Option Bool):Prop:=∀a0 r,f a0=some r->CJ prog 146 [.lit (.int .u8 a0)] (.lb r)
theorem Ms:IF (Bj):=λa0 r h q m vs hv=>SC.wva hv (dB func146 call146 ntmps146 results146 rfl (wk (.j 2 1 16 [.v 2 Bool λy=>.lb y] [] [] [] none .z .z) q m (Bj.eq_1 _) h))
instance:nQ 146 (IF Bj):=⟨Ms⟩
def sE (f:cF->cF->Option Bool):Prop:=∀a0 a1 r,f a0 a1=some r->CJ prog 173 [.ls a0,.ls a1] (.lb r)
theorem xD:sE (eX):=λa0 a1 r h q m vs hv=>SC.wva hv (dB func173 call173 ntmps173 results173 rfl (wk (.j 2 1 15 [.v 4 Bool λy=>.lb y] [] [] [] none .z .z) q m (eX.eq_1 _ _) h))
instance:nQ 173 (sE eX):=⟨xD⟩
def AN (f:cF->cF->Option Bool):Prop:=∀a0 a1 r,f a0 a1=some r->CJ prog 147 [.ls a0,.ls a1] (.lb r)
theorem Fu:AN (nT):=λa0 a1 r h q m vs hv=>SC.wva hv (dB func147 call147 ntmps147 results147 rfl (wk .z q m (nT.eq_1 _ _) h))
instance:nQ 147 (AN nT):=⟨Fu⟩
def rG (f:cF->Int->Option Int):Prop:=∀a0 a1 r,f a0 a1=some r->CJ prog 197 [.ls a0,.lit (.int .u8 a1)] (.li r)
theorem vM:rG oJ:=by
 intro a0 a1 r h q m vs hv;refine SC.weak ?_;rw [hv];cases h;intro c xs w h1 h2 h3;obtain ⟨x,xs,rfl,k1,k2⟩:=h2.uncons;obtain ⟨y,rfl,k3⟩:=k2.inv_one;obtain rfl:=k1.inv_lit;obtain rfl:=k3.inv_lit;refine .inr ⟨.int .i64 (Lib.indexByte a0 a1.toNat.toUInt8),w,?_,_,c,_,m,rfl,⟨rfl,rfl⟩,h1,.refl q c m w,.lit .nil⟩;rw [run_callFunc_extern (fn:=f197) (e:=Extern.BytealgIndexByte.indexByte) func197 (by kernel_rfl) (by kernel_rfl) (by kernel_rfl) (by rfl)];have:=Lib.run_indexByteString (P:=prog) (bs a0) a1 w;rw [this];rfl
instance:nQ 197 (rG oJ):=⟨vM⟩
def sD (f:cF->Int->Option Int):Prop:=∀a0 a1 r,f a0 a1=some r->CJ prog 174 [.ls a0,.lit (.int .u8 a1)] (.li r)
theorem xC:sD (lU):=λa0 a1 r h q m vs hv=>SC.wva hv (dB func174 call174 ntmps174 results174 rfl (wk .z q m (lU.eq_1 _ _) h))
instance:nQ 174 (sD lU):=⟨xC⟩
def AM (f:cF->Int->Option Int):Prop:=∀a0 a1 r,f a0 a1=some r->CJ prog 148 [.ls a0,.lit (.int .u8 a1)] (.li r)
theorem Ft:AM (nS):=λa0 a1 r h q m vs hv=>SC.wva hv (dB func148 call148 ntmps148 results148 rfl (wk .z q m (nS.eq_1 _ _) h))
instance:nQ 148 (AM nS):=⟨Ft⟩
def JX (f:cF->Int->Option Int):Prop:=∀a0 a1 r,f a0 a1=some r->CJ prog 115 [.ls a0,.li a1] (.li r)
theorem NO (n:Nat):JX (BJ n):=λa0 a1 r h q m vs hv=>SC.wva hv (dB func115 call115 ntmps115 results115 rfl (wk (.l [.v 1 Int λy=>.li y] [0] [] [] none .z .z) q m (BJ.eq_1 _ _ _) h))
instance:nQ 115 (∀n,JX (BJ n)):=⟨NO⟩
def Hz (f:Int->Option Bool):Prop:=∀a0 r,f a0=some r->CJ prog 150 [.lit (.int .u8 a0)] (.lb r)
theorem La:Hz (wB):=λa0 r h q m vs hv=>SC.wva hv (dB func150 call150 ntmps150 results150 rfl (wk (.j 2 1 12 [.v 2 Bool λy=>.lb y] [] [] [] none .z .z) q m (wB.eq_1 _) h))
instance:nQ 150 (Hz wB):=⟨La⟩
def IG (f:Int->Option Bool):Prop:=∀a0 r,f a0=some r->CJ prog 151 [.lit (.int .u8 a0)] (.lb r)
theorem Mt:IG (zR):=λa0 r h q m vs hv=>SC.wva hv (dB func151 call151 ntmps151 results151 rfl (wk (.j 2 1 8 [.v 2 Bool λy=>.lb y] [] [] [] none .z .z) q m (zR.eq_1 _) h))
instance:nQ 151 (IG zR):=⟨Mt⟩
def JW (f:cF->Option cF):Prop:=∀a0 r,f a0=some r->CJ prog 149 [.ls a0] (.ls r)
theorem NN (n:Nat):JW (DX n):=λa0 r h q m vs hv=>SC.wva hv (dB func149 call149 ntmps149 results149 rfl (wk (.l [.v 6 Int λy=>.li y] [0,5] [] [] none (.c (.j 2 4 15 [.v 20 Bool λy=>.lb y] [0,3,5,6] [] [] none .z .z) .z) .z) q m (DX.eq_1 _ _) h))
instance:nQ 149 (∀n,JW (DX n)):=⟨NN⟩
def sF (f:cF->cF->Option (cF × Bool)):Prop:=∀a0 a1 r,f a0 a1=some r->CJ prog 198 [.ls a0,.ls a1] (.tup [.ls r.1,.lb r.2])
theorem xE:sF (iP):=λa0 a1 r h q m vs hv=>SC.wva hv (dB func198 call198 ntmps198 results198 rfl (wk .z q m (iP.eq_1 _ _) h))
instance:nQ 198 (sF iP):=⟨xE⟩
def AO (f:cF->cF->Option (cF × Bool)):Prop:=∀a0 a1 r,f a0 a1=some r->CJ prog 175 [.ls a0,.ls a1] (.tup [.ls r.1,.lb r.2])
theorem Fv:AO (pT):=λa0 a1 r h q m vs hv=>SC.wva hv (dB func175 call175 ntmps175 results175 rfl (wk .z q m (pT.eq_1 _ _) h))
instance:nQ 175 (AO pT):=⟨Fv⟩
def IE (f:cF->Option (Int × Bool)):Prop:=∀a0 r,f a0=some r->CJ prog 152 [.ls a0] (.tup [.lw r.1,.lb r.2])
theorem Mr (n:Nat):IE (Bi n):=λa0 r h q m vs hv=>SC.wva hv (dB func152 call152 ntmps152 results152 rfl (wk (.c (.l [.v 7 Int λy=>.li y,.v 19 Int λy=>.li y] [0,4,18] [] [] none (.c (.j 2 11 22 [.v 38 Bool λy=>.lb y] [0,4,7,18,19] [] [] none .z .z) .z) .z) (.l [.v 7 Int λy=>.li y,.v 19 Int λy=>.li y] [0,4,18] [] [] none (.c (.j 2 11 22 [.v 38 Bool λy=>.lb y] [0,4,7,18,19] [] [] none .z .z) .z) .z)) q m (Bi.eq_1 _ _) h))
instance:nQ 152 (∀n,IE (Bi n)):=⟨Mr⟩
def JZ (f:cF->Option cF):Prop:=∀a0 r,f a0=some r->∀(q:Pa) (m:M) (vs:List V),vs.map V.weak1=[.ls a0]/\m.gl 3=.eptr [(cA cS eV)] 0 0->SC prog 153 vs q m (λv Y=>v=.ls r/\Y=m)
theorem NP (n:Nat):JZ (DY n):=λa0 r h q m vs ⟨hv,_⟩=>SC.wva hv (dB func153 call153 ntmps153 results153 rfl (wk (.l [.v 6 Int λy=>.li y] [0,5] [] [] none .z .z) q m (DY.eq_1 _ _) h))
instance:nQ 153 (∀n,JZ (DY n)):=⟨NP⟩
def Ka (f:cF->Int->Option (dE × Int)):Prop:=∀a0 a1 r,f a0 a1=some r->∀(q:Pa) (m:M) (vs:List V),vs.map V.weak1=[.ls a0,.li a1]/\m.gl 3=.eptr [(cA cS eV)] 0 0->SC prog 116 vs q m (λv Y=>v=.tup [.agg ((dE.C r.1)),.li r.2]/\Y=m)
theorem NQ (n:Nat):Ka (DZ n):=λa0 a1 r h q m vs ⟨hv,_⟩=>SC.wva hv (dB func116 call116 ntmps116 results116 rfl (wk .z q m (DZ.eq_1 _ _ _) h))
instance:nQ 116 (∀n,Ka (DZ n)):=⟨NQ⟩
def Hy (f:cF->Option ((List dE) × Int × Int)):Prop:=∀a0 r,f a0=some r->∀(q:Pa) (m:M) (vs:List V),vs.map V.weak1=[.list .none (pR a0)]/\m.gl 3=.eptr [(cA cS eV)] 0 0->SC prog 84 vs q m (λv Y=>v=.tup [.list .none (r.1.map dE.C),.li r.2.1,.li r.2.2]/\Y=m)
theorem KZ (n:Nat):Hy (zQ n):=λa0 r h q m vs ⟨hv,_⟩=>SC.wva hv (dB func84 call84 ntmps84 results84 rfl (wk (.c .z (.s 6 (.l [.o 6 (List dE) λy=>(y.map dE.C),.v 7 Int λy=>.li y] [5] [] [] none .z .z))) q m (zQ.eq_1 _ _) h))
instance:nQ 84 (∀n,Hy (zQ n)):=⟨KZ⟩
def xK (f:aE->Option dE):Prop:=∀a0 r,f a0=some r->∀(q:Pa) (m:M) (vs:List V) (P0:Pa),vs.map V.weak1=[.ptr P0 0]/\m.blk P0=some ((aE.C a0))->SC prog 86 vs q m (λv Y=>v=.agg ((dE.C r))/\Y=m)
theorem DE:xK (dG):=λa0 r h q m vs P0 ⟨hv,hmP0⟩=>SC.wva hv (SC.ac hmP0 λ_ _ _=>dB func86 call86 ntmps86 results86 rfl (wk .z q m (dG.eq_1 _) h))
instance:nQ 86 (xK dG):=⟨DE⟩
def zB (f:aE->Int->Option aE):Prop:=∀a0 a1 r,f a0 a1=some r->∀(q:Pa) (m:M) (vs:List V) (P0:Pa),vs.map V.weak1=[.ptr P0 0,.li a1]/\m.blk P0=some ((aE.C a0))->SC prog 117 vs q m (λv Y=>v=.tup []/\Y=(m.set P0 ((aE.C r))))
theorem EE:zB (gN):=λa0 a1 r h q m vs P0 ⟨hv,hmP0⟩=>SC.wva hv (SC.ac hmP0 λ_ _ _=>dB func117 call117 ntmps117 results117 rfl (wk .z q m (gN.eq_1 _ _) h))
instance:nQ 117 (zB gN):=⟨EE⟩
def yY (f:aE->Int->Option (aD × aE)):Prop:=∀a0 a1 r,f a0 a1=some r->∀(q:Pa) (m:M) (vs:List V) (P0:Pa),vs.map V.weak1=[.ptr P0 0,.li a1]/\m.blk P0=some ((aE.C a0))->SC prog 85 vs q m (λv Y=>∃(id:Pa) (j:Nat),q <:+ id/\v=.agg ([.li r.1.bS,.li r.1.eU,.ls r.1.cX,.lw r.1.oM,.list (.st (.anon id j)) (r.1.aO.map aD.C)])/\Y=(m.set P0 ((aE.C r.2))).tokset id j true)
theorem EC:yY (eJ):=λa0 a1 r h q m vs P0 ⟨hv,hmP0⟩=>SC.wva hv (SC.ac hmP0 λ_ _ _=>SC_vo func85 call85 ntmps85 results85 4 rfl λ_=>wk .z q m (eJ.eq_1 _ _) h)
instance:nQ 85 (yY eJ):=⟨EC⟩
def sM (f:(List cF)->cF->Option Int):Prop:=∀a0 a1 r,f a0 a1=some r->CJ prog 199 [.list .none (a0.map cS),.ls a1] (.li r)
theorem yO (n:Nat):sM (jW n):=λa0 a1 r h q m vs hv=>SC.wva hv (dB func199 call199 ntmps199 results199 rfl (wk (.l [.v 8 Int λy=>.li y] [0,1,7] [] [] none .z .z) q m (jW.eq_1 _ _ _) h))
instance:nQ 199 (∀n,sM (jW n)):=⟨yO⟩
def rN (f:(List cF)->cF->Option Bool):Prop:=∀a0 a1 r,f a0 a1=some r->CJ prog 176 [.list .none (a0.map cS),.ls a1] (.lb r)
theorem vZ (n:Nat):rN (iF n):=λa0 a1 r h q m vs hv=>SC.wva hv (dB func176 call176 ntmps176 results176 rfl (wk .z q m (iF.eq_1 _ _ _) h))
instance:nQ 176 (∀n,rN (iF n)):=⟨vZ⟩
def Hx (f:cF->Option Bool):Prop:=∀a0 r,f a0=some r->∀(q:Pa) (m:M) (vs:List V),vs.map V.weak1=[.ls a0]/\m.gl 4=.eptr [(cA cS cD)] 0 0->SC prog 155 vs q m (λv Y=>v=.lb r/\Y=m)
theorem KV (n:Nat):Hx (wA n):=λa0 r h q m vs ⟨hv,_⟩=>SC.wva hv (dB func155 call155 ntmps155 results155 rfl (wk .z q m (wA.eq_1 _ _) h))
instance:nQ 155 (∀n,Hx (wA n)):=⟨KV⟩
def AQ (f:aE->cF->Option Bool):Prop:=∀a0 a1 r,f a0 a1=some r->∀(q:Pa) (m:M) (vs:List V) (P0:Pa),vs.map V.weak1=[.ptr P0 0,.ls a1]/\m.blk P0=some ((aE.C a0))/\m.gl 4=.eptr [(cA cS cD)] 0 0->SC prog 154 vs q m (λv Y=>v=.lb r/\Y=m)
theorem Am (n:Nat):AQ (iR n):=λa0 a1 r h q m vs P0 ⟨hv,hmP0,_⟩=>SC.wva hv (SC.ac hmP0 λ_ _ _=>dB func154 call154 ntmps154 results154 rfl (wk (.j 2 2 31 [.v 4 Bool λy=>.lb y] [0] [0] [] none .z .z) q m (iR.eq_1 _ _ _) h))
instance:nQ 154 (∀n,AQ (iR n)):=⟨Am⟩
def yV (f:aE->cF->Option (Bool × aE)):Prop:=∀a0 a1 r,f a0 a1=some r->∀(q:Pa) (m:M) (vs:List V) (P0:Pa),vs.map V.weak1=[.ptr P0 0,.ls a1]/\m.blk P0=some ((aE.C a0))/\m.gl 4=.eptr [(cA cS cD)] 0 0->SC prog 118 vs q m (λv Y=>v=.lb r.1/\Y=(m.set P0 ((aE.C r.2))))
theorem nX (n:Nat):yV (bV n):=λa0 a1 r h q m vs P0 ⟨hv,hmP0,_⟩=>SC.wva hv (SC.ac hmP0 λ_ _ _=>dB func118 call118 ntmps118 results118 rfl (wk .z q m (bV.eq_1 _ _ _) h))
instance:nQ 118 (∀n,yV (bV n)):=⟨nX⟩
def yZ (f:aE->cF->Option aE):Prop:=∀a0 a1 r,f a0 a1=some r->∀(q:Pa) (m:M) (vs:List V) (P0:Pa),vs.map V.weak1=[.ptr P0 0,.ls a1]/\m.blk P0=some ((aE.C a0))/\m.gl 4=.eptr [(cA cS cD)] 0 0->SC prog 119 vs q m (λv Y=>v=.tup []/\Y=(m.set P0 ((aE.C r))))
theorem oA (n:Nat):yZ (bR n):=λa0 a1 r h q m vs P0 ⟨hv,hmP0,_⟩=>SC.wva hv (SC.ac hmP0 λ_ _ _=>dB func119 call119 ntmps119 results119 rfl (wk .z q m (bR.eq_1 _ _ _) h))
instance:nQ 119 (∀n,yZ (bR n)):=⟨oA⟩
def zA (f:aE->Option (cF × aE)):Prop:=∀a0 r,f a0=some r->∀(q:Pa) (m:M) (vs:List V) (P0:Pa),vs.map V.weak1=[.ptr P0 0]/\m.blk P0=some ((aE.C a0))/\m.gl 4=.eptr [(cA cS cD)] 0 0->SC prog 120 vs q m (λv Y=>v=.ls r.1/\Y=(m.set P0 ((aE.C r.2))))
theorem ED (n:Nat):zA (dX n):=λa0 r h q m vs P0 ⟨hv,hmP0,_⟩=>SC.wva hv (SC.ac hmP0 λ_ _ _=>dB func120 call120 ntmps120 results120 rfl (wk (.j 2 2 20 [.v 20 Bool λy=>.lb y] [0,3] [0,3] [] none .z .z) q m (dX.eq_1 _ _) h))
instance:nQ 120 (∀n,zA (dX n)):=⟨ED⟩
def wN (f:aE->Option (Int × aE)):Prop:=∀a0 r,f a0=some r->∀(q:Pa) (m:M) (vs:List V) (P0:Pa),vs.map V.weak1=[.ptr P0 0]/\m.blk P0=some ((aE.C a0))->SC prog 177 vs q m (λv Y=>v=.lw r.1/\Y=(m.set P0 ((aE.C r.2))))
theorem De:wN (kI):=λa0 r h q m vs P0 ⟨hv,hmP0⟩=>SC.wva hv (SC.ac hmP0 λ_ _ _=>dB func177 call177 ntmps177 results177 rfl (wk (.j 2 2 15 [.v 15 Bool λy=>.lb y] [0,3] [0,3] [] none .z .z) q m (kI.eq_1 _) h))
instance:nQ 177 (wN kI):=⟨De⟩
def yW (f:aE->Option (Int × aE)):Prop:=∀a0 r,f a0=some r->∀(q:Pa) (m:M) (vs:List V) (P0:Pa),vs.map V.weak1=[.ptr P0 0]/\m.blk P0=some ((aE.C a0))/\m.gl 4=.eptr [(cA cS cD)] 0 0->SC prog 156 vs q m (λv Y=>v=.lw r.1/\Y=(m.set P0 ((aE.C r.2))))
theorem Ey (n:Nat):yW (mD n):=λa0 r h q m vs P0 ⟨hv,hmP0,_⟩=>SC.wva hv (SC.ac hmP0 λ_ _ _=>dB func156 call156 ntmps156 results156 rfl (wk .z q m (mD.eq_1 _ _) h))
instance:nQ 156 (∀n,yW (mD n)):=⟨Ey⟩
def xM (f:aE->Option (aD × aE)):Prop:=∀a0 r,f a0=some r->∀(q:Pa) (m:M) (vs:List V) (P0:Pa),vs.map V.weak1=[.ptr P0 0]/\m.blk P0=some ((aE.C a0))/\m.gl 4=.eptr [(cA cS cD)] 0 0->SC prog 122 vs q m (λv Y=>v=.agg ((aD.C r.1))/\Y=(m.set P0 ((aE.C r.2))))
instance:Sq kQ 3:=⟨by decide⟩
@[go_sem low] theorem KK {n:Nat}:List.drop n [V.lit (.string (bs ([112,117,98]:cF))),V.lit (.string (bs ([117,51,50]:cF))),V.lit (.string (bs ([117,54,52]:cF)))]=NG cS kQ[n]? ++ cA cS (kQ.drop (n+1)):=Oi (f:=cS) (l:=kQ)
theorem DG (n:Nat):xM (nD n):=λa0 r h q m vs P0 ⟨hv,hmP0,_⟩=>SC.wva hv (SC.ac hmP0 λ_ _ _=>dB func122 call122 ntmps122 results122 rfl (wk (.l [.v 15 Int λy=>.li y,.b 0 aE λy=>(aE.C y),.b 2 aD λy=>[.li y.bS,.li y.eU,.ls y.cX,.lw y.oM,.list .self (y.aO.map aD.C)],.b 3 aD λy=>[.li y.bS,.li y.eU,.ls y.cX,.lw y.oM,.list .self (y.aO.map aD.C)]] [0,2,3,14] [] [] none .z .z) q m (nD.eq_1 _ _) h))
instance:nQ 122 (∀n,xM (nD n)):=⟨DG⟩
def tP (f:aE->Option ((List aD) × aE)):Prop:=∀a0 r,f a0=some r->∀(q:Pa) (m:M) (vs:List V) (P0:Pa),vs.map V.weak1=[.ptr P0 0,.fn (.func 122) [.ptr P0 0] []]/\m.blk P0=some ((aE.C a0))/\m.gl 4=.eptr [(cA cS cD)] 0 0->SC prog 121 vs q m (λv Y=>∃(id:Pa) (j:Nat),q <:+ id/\v=.list (.st (.anon id j)) (r.1.map aD.C)/\Y=(m.set P0 ((aE.C r.2))).tokset id j true)
theorem Al (n:Nat):tP (fG n):=λa0 r h q m vs P0 ⟨hv,hmP0,_⟩=>SC.wva hv (SC.ac hmP0 λ_ _ _=>SC_vo func121 call121 ntmps121 results121 0 rfl λ_=>wk (.c .z (.j 1 0 8 [.o 5 (List aD) λy=>(y.map aD.C),.b 0 aE λy=>(aE.C y)] [0,1] [] [] none (.s 5 (.l [.o 5 (List aD) λy=>(y.map aD.C),.b 0 aE λy=>(aE.C y)] [0,1] [] [] none .z .z)) .z)) q m (fG.eq_1 _ _) h)
def zC (f:aE->Int->Option aE):Prop:=∀a0 a1 r,f a0 a1=some r->∀(q:Pa) (m:M) (vs:List V) (P0:Pa),vs.map V.weak1=[.ptr P0 0,.li a1]/\m.blk P0=some ((aE.C a0))->SC prog 157 vs q m (λv Y=>v=.tup []/\Y=(m.set P0 ((aE.C r))))
theorem EG:zC (mF):=λa0 a1 r h q m vs P0 ⟨hv,hmP0⟩=>SC.wva hv (SC.ac hmP0 λ_ _ _=>dB func157 call157 ntmps157 results157 rfl (wk .z q m (mF.eq_1 _ _) h))
instance:nQ 157 (zC mF):=⟨EG⟩
def yX (f:aE->Int->Option cF):Prop:=∀a0 a1 r,f a0 a1=some r->∀(q:Pa) (m:M) (vs:List V) (P0:Pa),vs.map V.weak1=[.ptr P0 0,.li a1]/\m.blk P0=some ((aE.C a0))/\m.gl 4=.eptr [(cA cS cD)] 0 0/\m.gl 6=.eptr [(cA (cA cS) cT)] 0 0->SC prog 208 vs q m (λv Y=>v=.ls r/\Y=m)
theorem Ez (n:Nat):yX (mE n):=by
 rintro a0 a1 r h q m vs P0 ⟨hv,hmP0,hg4,hg6⟩;refine SC.wv hv ?_;refine SC.apart hmP0 λhpP0=>?_
 try simp only [go_sem,seval] at hmP0
 refine sY func208 call208 ntmps208 results208 ?_;unfold mE at h;refine aK (aQ λ_ z=>?_);have K1:=qJ2 hg4 hg6;simp only [go_sem,seval,bT hpP0,hmP0,K1];apply z;simp only [aC,aA];refine aK (aK ?_);obtain ⟨x1,h5,h⟩:=aI h;obtain ⟨f2,f3,f4⟩:=bZ h5;have f6:a1<7:=f3;obtain ⟨w7,d8⟩:=Qx (f:=(cA cS)) (s:=3) (Va (f:=(cA cS)) (s:=3) _ (by kernel_rfl)) f4;have d9:=(Va (f:=(cA cS)) (s:=3) _ (by kernel_rfl)) _ (CT f4);have d10:=List.take_left' (l₂:=w7) d9;have d11:(3<=(cA cS x1).length+w7.length)=True:=eq_true (by omega);refine aQ λ_ z=>?_;have K2:=qJ8 K1 f2 f3 f4 f6 d10 d11 d8;simp only [go_sem,seval,bT hpP0,hmP0,K2];apply z;simp only [aC,aA];refine dM ?_;obtain ⟨y14,j14,h⟩:=aI h;refine wZ (λc X Y=>∃v13,lQ n x1 a0 c v13=some y14/\X 0=.ptr P0 0/\X 9=.agg ((cA cS x1))/\X 10=.li v13/\Y.blk P0=some ((aE.C a0))/\Y.gl=m.gl/\m.back q Y=m) n ⟨0,j14,?_⟩ ?_
 ·simp only [go_sem,seval,aW,aV,aP,aZ,bE hpP0,bT hpP0,hmP0,K2]
 rintro i12 c15 E16 m17 ⟨v13,j14,e18⟩ _
 rcases c15 with _ | c15
 ·cases j14
 rw [lQ] at j14;refine aK (aQ λ_ z=>?_);simp only [go_sem,seval,bT hpP0,e18,K2];apply z;simp only [aC,aA];refine aK (eT j14 (λc19 j14=>?_) (λc19 j14=>?_))
 ·refine cN ?_
  try simp only [aC,aA]
  refine aK (dM (aK ?_));obtain ⟨x20,h24,j14⟩:=aI j14;obtain ⟨f21,f22,f23⟩:=bZ h24;have f25:=(uG.1 f23).1;have f26:v13<3:=by have:=cA_one d9;omega
  obtain ⟨w27,d28⟩:=Qx (f:=cS) (s:=1) (λ_ _=>rfl) f23;simp only [go_sem,seval] at d28;refine aQ λ_ z=>?_;have K3:=qJ8 K2 c19 f21 f22 f23 f26 d28 e18;simp only [go_sem,seval,bT hpP0,K3];apply z;simp only [aC,aA];refine aK ?_;obtain ⟨y29,j29,j14⟩:=aI j14;refine yL 10 (λX Y=>X 0=.ptr P0 0/\X 6=.ls x20/\X 9=.agg ((cA cS x1))/\X 10=.li v13/\X 19=.lb y29/\Y.blk P0=some ((aE.C a0))/\Y.gl=m.gl/\m.back q Y=m) ?_ ?_
  ·rcases xW j29 with ⟨c30,j29⟩ | ⟨c30,j29⟩
   ·obtain ⟨x31,h32,j29⟩:=aI j29;refine aQ λ_ z=>?_;simp only [go_sem,seval,bT hpP0,c30,K3];refine SC.by_ (Am n a0 x20 _ h32 _ _ _ P0 (by simp only [go_sem,seval,bT hpP0,c30,K3])) ?_;simp only [go_sem,seval,bT hpP0,c30,K3];apply z;simp only [aC,aA];cases j29;refine ⟨by decide,?_⟩;simp only [go_sem,seval,aW,aV,aP,aZ,bE hpP0,bT hpP0,c30,K3]
   ·refine aQ λ_ z=>?_;simp only [go_sem,seval,bT hpP0,c30,K3];apply z;simp only [aC,aA];cases j29;refine ⟨by decide,?_⟩;simp only [go_sem,seval,aW,aV,aP,aZ,bE hpP0,bT hpP0,c30,K3]
  ·intro E33 m34 e35 _;simp only [aC,aA];refine eT j14 (λc36 j14=>?_) (λc36 j14=>?_)
   ·refine aK (aQ λ_ z=>?_);have K4:=qJ9 K2 c19 f21 f22 f23 f26 d28 c36 e35;simp only [go_sem,seval,bT hpP0,K4];apply z;simp only [aC,aA];refine cU ?_
    try simp only [aU,aR]
    cases j14;simp only [xet,xep] at h;cases h;refine ⟨by simp,?_⟩;simp only [go_sem,seval,aW,aV,aP,aZ,bE hpP0,bT hpP0,K4]
   ·refine cN ?_
    try simp only [aC,aA]
    refine aQ λ_ z=>?_;have K5:=qJ9 K2 c19 f21 f22 f23 f26 d28 c36 e35;simp only [go_sem,seval,bT hpP0,K5];apply z;simp only [aC,aA];refine ⟨c15,MU _,(i64.wrap (v13+1)),j14,?_⟩;simp only [go_sem,seval,aW,aV,aP,aZ,bE hpP0,bT hpP0,K5]
 ·refine lV ?_
  try simp only [seval,bD,aY,aC,aA]
  cases j14;simp only [xet,xep] at h;refine aK (aQ λ_ z=>?_);simp only [go_sem,seval,bT hpP0,c19,e18,K2];apply z;simp only [aC,aA];refine cU ?_
  try simp only [aU,aR]
  cases h;refine ⟨by simp,?_⟩;simp only [go_sem,seval,aW,aV,aP,aZ,bE hpP0,bT hpP0,c19,e18,K2]
instance:nQ 208 (∀n,yX (mE n)):=⟨Ez⟩
def kM (f:aE->Int->Option ((List aD) × aE)):Prop:=∀a0 a1 r,f a0 a1=some r->∀(q:Pa) (m:M) (vs:List V) (P0:Pa) (P1:Pa) (P2:Pa),vs.map V.weak1=[.ptr P0 0,.fn (.func 215) [] [.ptr P1 0,.ptr P2 0]]/\m.blk P0=some ((aE.C a0))/\m.blk P1=some ([.ptr P0 0])/\m.blk P2=some ([.li a1])/\(P0=P1)=False/\(P0=P2)=False/\(P1=P0)=False/\(P1=P2)=False/\(P2=P0)=False/\(P2=P1)=False/\m.gl 4=.eptr [(cA cS cD)] 0 0/\m.gl 6=.eptr [(cA (cA cS) cT)] 0 0->SC prog 121 vs q m (λv Y=>v=.list .none (r.1.map aD.C)/\Y=(m.set P0 ((aE.C r.2))))
def iK (f:aE->Int->Option (aD × aE)):Prop:=∀a0 a1 r,f a0 a1=some r->∀(q:Pa) (m:M) (vs:List V) (P0:Pa),vs.map V.weak1=[.ptr P0 0,.li a1]/\m.blk P0=some ((aE.C a0))/\m.gl 4=.eptr [(cA cS cD)] 0 0/\m.gl 6=.eptr [(cA (cA cS) cT)] 0 0->SC prog 179 vs q m (λv Y=>v=.agg ((aD.C r.1))/\Y=(m.set P0 ((aE.C r.2))))
def lR (f:aE->Int->Int->Option (aD × aE)):Prop:=∀a0 a1 a2 r,f a0 a1 a2=some r->∀(q:Pa) (m:M) (vs:List V) (P0:Pa),vs.map V.weak1=[.ptr P0 0,.li a1,.li a2]/\m.blk P0=some ((aE.C a0))/\m.gl 4=.eptr [(cA cS cD)] 0 0/\m.gl 6=.eptr [(cA (cA cS) cT)] 0 0->SC prog 200 vs q m (λv Y=>v=.agg ((aD.C r.1))/\Y=(m.set P0 ((aE.C r.2))))
def kD (f:aE->Int->Option (aD × aE)):Prop:=∀a0 a1 r,f a0 a1=some r->∀(q:Pa) (m:M) (vs:List V) (P0:Pa),vs.map V.weak1=[.ptr P0 0,.li a1]/\m.blk P0=some ((aE.C a0))/\m.gl 4=.eptr [(cA cS cD)] 0 0/\m.gl 6=.eptr [(cA (cA cS) cT)] 0 0->SC prog 207 vs q m (λv Y=>v=.agg ((aD.C r.1))/\Y=(m.set P0 ((aE.C r.2))))
def rE (f:aE->Int->Option (aD × aE)):Prop:=∀a0 a1 r,f a0 a1=some r->∀(q:Pa) (m:M) (vs:List V) (P0:Pa) (P1:Pa) (P2:Pa),vs.map V.weak1=[.ptr P1 0,.ptr P2 0]/\m.blk P0=some ((aE.C a0))/\m.blk P1=some ([.ptr P0 0])/\m.blk P2=some ([.li a1])/\(P0=P1)=False/\(P0=P2)=False/\(P1=P0)=False/\(P1=P2)=False/\(P2=P0)=False/\(P2=P1)=False/\m.gl 4=.eptr [(cA cS cD)] 0 0/\m.gl 6=.eptr [(cA (cA cS) cT)] 0 0->SC prog 215 vs q m (λv Y=>v=.agg ((aD.C r.1))/\Y=(m.set P0 ((aE.C r.2))))
theorem vF {eN} (Ar:rE eN) (n:Nat):kM (hM eN n):=by
 rintro a0 a1 r h q m vs P0 P1 P2 ⟨hv,hmP0,hmP1,hmP2,hn0_1,hn0_2,hn1_0,hn1_2,hn2_0,hn2_1,hg4,hg6⟩;refine SC.wv hv ?_;refine SC.apart hmP0 λhpP0=>?_;refine SC.apart hmP1 λhpP1=>?_;refine SC.apart hmP2 λhpP2=>?_;have l0:=Ht hmP0
 try simp only [go_sem,seval] at hmP0 l0
 skip
 try simp only [go_sem,seval] at hmP2
 refine sY func121 call121 ntmps121 results121 ?_;unfold hM at h;refine aK (aQ λ_ z=>?_);have K1:=qJ2 hg4 hg6;simp only [go_sem,seval,bT hpP0,bT hpP1,bT hpP2,hn0_1,hn0_2,hn1_0,hn1_2,hn2_0,hn2_1,hmP0,hmP1,hmP2,K1];apply z;simp only [aC,aA];refine aK (aQ λ_ z=>?_);simp only [go_sem,seval,bT hpP0,bT hpP1,bT hpP2,hn0_1,hn0_2,hn1_0,hn1_2,hn2_0,hn2_1,hmP0,hmP1,hmP2,K1];apply z;simp only [aC,aA];refine aK ?_;obtain ⟨x1,h2,h⟩:=aI h;refine aQ λ_ z=>?_;simp only [go_sem,seval,bT hpP0,bT hpP1,bT hpP2,hn0_1,hn0_2,hn1_0,hn1_2,hn2_0,hn2_1,hmP0,hmP1,hmP2,K1];refine SC.by_ (oA n a0 ([40]:cF) _ h2 _ _ _ P0 (by simp only [go_sem,seval,bT hpP0,bT hpP1,bT hpP2,hn0_1,hn0_2,hn1_0,hn1_2,hn2_0,hn2_1,hmP0,hmP1,hmP2,K1])) ?_;simp only [go_sem,seval,bT hpP0,bT hpP1,bT hpP2,hn0_1,hn0_2,hn1_0,hn1_2,hn2_0,hn2_1,hmP0,hmP1,hmP2,K1];apply z;simp only [aC,aA];refine aK (aK ?_);obtain ⟨x3,h4,h⟩:=aI h;refine aQ λ_ z=>?_;simp only [go_sem,seval,bT hpP0,bT hpP1,bT hpP2,hn0_1,hn0_2,hn1_0,hn1_2,hn2_0,hn2_1,hmP0,hmP1,hmP2,K1];refine SC.by_ (nX n x1 ([41]:cF) _ h4 _ _ _ P0 (by simp only [go_sem,seval,bT hpP0,bT hpP1,bT hpP2,hn0_1,hn0_2,hn1_0,hn1_2,hn2_0,hn2_1,hmP0,hmP1,hmP2,K1])) ?_;simp only [go_sem,seval,bT hpP0,bT hpP1,bT hpP2,hn0_1,hn0_2,hn1_0,hn1_2,hn2_0,hn2_1,hmP0,hmP1,hmP2,K1];apply z;simp only [aC,aA];refine eT h (λc5 h=>?_) (λc5 h=>?_)
 ·refine aK (aQ λ_ z=>?_);simp only [go_sem,seval,bT hpP0,bT hpP1,bT hpP2,hn0_1,hn0_2,hn1_0,hn1_2,hn2_0,hn2_1,c5,hmP0,hmP1,hmP2,K1];apply z;simp only [aC,aA];refine cU ?_
  try simp only [aU,aR]
  cases h;refine ⟨by simp,?_⟩;simp only [go_sem,seval,aW,aV,aP,aZ,bE hpP0,bE hpP1,bE hpP2,l0,bT hpP0,bT hpP1,bT hpP2,hn0_1,hn0_2,hn1_0,hn1_2,hn2_0,hn2_1,c5,hmP0,hmP1,hmP2,K1]
 ·refine cN ?_
  try simp only [aC,aA]
  refine aK ?_;obtain ⟨y6,j6,h⟩:=aI h;refine yL 8 (λX Y=>∃(oy6_5:Pa) (jy6_5:Nat),X 0=.ptr P0 0/\X 5=.list (.st (.anon oy6_5 jy6_5)) (y6.1.map aD.C)/\Y.tok oy6_5 jy6_5=true/\q <:+ oy6_5/\Y.blk P0=some ((aE.C y6.2))/\Y.blk P1=some ([.ptr P0 0])/\Y.blk P2=some ([.li a1])/\Y.gl=m.gl/\m.back q Y=(m.set P0 ((aE.C y6.2)))) ?_ ?_
  ·refine dM ?_;obtain ⟨y10,j10,j6⟩:=aI j6;refine BV 5 ([].map aD.C) rfl (by simp only [go_sem,seval,bT hpP0,bT hpP1,bT hpP2,hn0_1,hn0_2,hn1_0,hn1_2,hn2_0,hn2_1,c5,hmP0,hmP1,hmP2,K1]) ?_;refine wZ (λc X Y=>∃v8 v9 o_v8 j_v8,fF eN n a1 c v8 v9=some y10/\X 0=.ptr P0 0/\X 1=.fn (.func 215) [] [.ptr P1 0,.ptr P2 0]/\X 5=.list (.st (.anon o_v8 j_v8)) (v8.map aD.C)/\Y.tok o_v8 j_v8=true/\q <:+ o_v8/\Y.blk P0=some ((aE.C v9))/\Y.blk P1=some ([.ptr P0 0])/\Y.blk P2=some ([.li a1])/\Y.gl=m.gl/\m.back q Y=(m.set P0 ((aE.C v9)))) n ⟨[],x3.2,(6::q),0,j10,?_⟩ ?_
   ·simp only [go_sem,seval,aW,aV,aP,aZ,bE hpP0,bE hpP1,bE hpP2,l0,bT hpP0,bT hpP1,bT hpP2,hn0_1,hn0_2,hn1_0,hn1_2,hn2_0,hn2_1,c5,hmP0,hmP1,hmP2,K1]
   rintro i7 c11 E12 m13 ⟨v8,v9,o_v8,j_v8,j10,e14⟩ _
   rcases c11 with _ | c11
   ·cases j10
   rw [fF] at j10;refine aK (aK (aQ λ_ z=>?_));have K2:=qJ3 K1 c5 e14;simp only [go_sem,seval,bT hpP0,bT hpP1,bT hpP2,hn0_1,hn0_2,hn1_0,hn1_2,hn2_0,hn2_1,K2];apply z;simp only [aC,aA];refine eT j10 (λc15 j10=>?_) (λc15 j10=>?_)
   ·refine cN ?_
    try simp only [aC,aA]
    refine dM (aK ?_);obtain ⟨x16,h17,j10⟩:=aI j10;obtain ⟨f18,j10⟩:=cH j10;have f19:v8.length+1<=1073741824:=by first | omega | (simp only [mB,dT,eI] at f18 ⊢;omega)
    have f20:v8.length<=1073741823:=by first | omega | (simp only [mB,dT,eI] at f18 ⊢;omega)
    refine aQ λ_ z=>?_;have K3:=qJ5 K2 c15 f18 f19 f20;simp only [go_sem,seval,bT hpP0,bT hpP1,bT hpP2,hn0_1,hn0_2,hn1_0,hn1_2,hn2_0,hn2_1,K3];refine SC.by_ (Ar v9 a1 _ h17 _ _ _ P0 P1 P2 (by simp only [go_sem,seval,bT hpP0,bT hpP1,bT hpP2,hn0_1,hn0_2,hn1_0,hn1_2,hn2_0,hn2_1,K3])) ?_;simp only [go_sem,seval,bT hpP0,bT hpP1,bT hpP2,hn0_1,hn0_2,hn1_0,hn1_2,hn2_0,hn2_1,K3];apply z;simp only [aC,aA];refine aK ?_;obtain ⟨x21,h22,j10⟩:=aI j10;refine aQ λ_ z=>?_;simp only [go_sem,seval,bT hpP0,bT hpP1,bT hpP2,hn0_1,hn0_2,hn1_0,hn1_2,hn2_0,hn2_1,K3];refine SC.by_ (nX n x16.2 ([44]:cF) _ h22 _ _ _ P0 (by simp only [go_sem,seval,bT hpP0,bT hpP1,bT hpP2,hn0_1,hn0_2,hn1_0,hn1_2,hn2_0,hn2_1,K3])) ?_;simp only [go_sem,seval,bT hpP0,bT hpP1,bT hpP2,hn0_1,hn0_2,hn1_0,hn1_2,hn2_0,hn2_1,K3];apply z;simp only [aC,aA];refine eT j10 (λc23 j10=>?_) (λc23 j10=>?_)
    ·refine lV ?_
     try simp only [seval,bD,aY,aC,aA]
     cases j10;cases j6;refine ⟨by decide,(9::i7::7::q),0,?_⟩;simp only [go_sem,seval,aW,aV,aP,aZ,bE hpP0,bE hpP1,bE hpP2,l0,bT hpP0,bT hpP1,bT hpP2,hn0_1,hn0_2,hn1_0,hn1_2,hn2_0,hn2_1,c23,K3]
    ·refine cN ?_
     try simp only [aC,aA]
     refine ⟨c11,MU _,(v8++[x16.1]),x21.2,(9::i7::7::q),0,j10,?_⟩;simp only [go_sem,seval,aW,aV,aP,aZ,bE hpP0,bE hpP1,bE hpP2,l0,bT hpP0,bT hpP1,bT hpP2,hn0_1,hn0_2,hn1_0,hn1_2,hn2_0,hn2_1,c23,K3]
   ·refine lV ?_
    try simp only [seval,bD,aY,aC,aA]
    cases j10;cases j6;refine ⟨by decide,o_v8,j_v8,?_⟩;simp only [go_sem,seval,aW,aV,aP,aZ,bE hpP0,bE hpP1,bE hpP2,l0,bT hpP0,bT hpP1,bT hpP2,hn0_1,hn0_2,hn1_0,hn1_2,hn2_0,hn2_1,c15,K2]
  ·rintro E24 m25 ⟨oy6_5,jy6_5,e26⟩ _;simp only [aC,aA];refine aK ?_;obtain ⟨x27,h28,h⟩:=aI h;refine aQ λ_ z=>?_;have K4:=qJ3 K1 c5 e26;simp only [go_sem,seval,bT hpP0,bT hpP1,bT hpP2,hn0_1,hn0_2,hn1_0,hn1_2,hn2_0,hn2_1,K4];refine SC.by_ (oA n y6.2 ([41]:cF) _ h28 _ _ _ P0 (by simp only [go_sem,seval,bT hpP0,bT hpP1,bT hpP2,hn0_1,hn0_2,hn1_0,hn1_2,hn2_0,hn2_1,K4])) ?_;simp only [go_sem,seval,bT hpP0,bT hpP1,bT hpP2,hn0_1,hn0_2,hn1_0,hn1_2,hn2_0,hn2_1,K4];apply z;simp only [aC,aA];refine aK (aQ λ_ z=>?_);simp only [go_sem,seval,bT hpP0,bT hpP1,bT hpP2,hn0_1,hn0_2,hn1_0,hn1_2,hn2_0,hn2_1,K4];apply z;simp only [aC,aA];refine cU ?_
   try simp only [aU,aR]
   cases h;refine ⟨by simp,?_⟩;simp only [go_sem,seval,aW,aV,aP,aZ,bE hpP0,bE hpP1,bE hpP2,l0,bT hpP0,bT hpP1,bT hpP2,hn0_1,hn0_2,hn1_0,hn1_2,hn2_0,hn2_1,K4]
theorem Dg {cP} (rR:lR cP) (n:Nat):iK (pA cP n):=haveI:nQ 200 (lR cP):=⟨rR⟩;λa0 a1 r h q m vs P0 ⟨hv,hmP0,_,_⟩=>SC.wva hv (SC.ac hmP0 λ_ _ _=>dB func179 call179 ntmps179 results179 rfl (wk .z q m (pA.eq_1 _ _ _ _) h))
theorem Cb {cO} (qW:kD cO) {cP} (rR:lR cP) (n:Nat):lR (oB cO cP n):=haveI:nQ 207 (kD cO):=⟨qW⟩;haveI:nQ 200 (lR cP):=⟨rR⟩;λa0 a1 a2 r h q m vs P0 ⟨hv,hmP0,_,_⟩=>SC.wva hv (SC.ac hmP0 λ_ _ _=>dB func200 call200 ntmps200 results200 rfl (wk (.c .z (.l [.v 8 cF λy=>.ls y,.b 0 aE λy=>(aE.C y),.b 7 aD λy=>(aD.C y)] [0,1,2,6,7] [6] [] none .z .z)) q m (oB.eq_1 _ _ _ _ _ _) h))
instance:Sq gU 2:=⟨by decide⟩
@[go_sem low] theorem Jo {n:Nat}:List.drop n [V.lit (.string (bs ([126]:cF))),V.lit (.string (bs ([45]:cF)))]=NG cS gU[n]? ++ cA cS (gU.drop (n+1)):=Oi (f:=cS) (l:=gU)
theorem AX {dN} (sI:iK dN) {cO} (qW:kD cO) {gF} (vN:kM gF) (n:Nat):kD (mO dN cO gF n):=haveI:nQ 179 (iK dN):=⟨sI⟩;haveI:nQ 207 (kD cO):=⟨qW⟩;haveI:nQ 121 (kM gF):=⟨vN⟩;λa0 a1 r h q m vs P0 ⟨hv,hmP0,_,_⟩=>SC.wva hv (SC.ac hmP0 λ_ _ _=>dB func207 call207 ntmps207 results207 rfl (wk (.c .z (.l [.v 24 Int λy=>.li y,.b 0 aE λy=>(aE.C y),.b 6 aD λy=>[.li y.bS,.li y.eU,.ls y.cX,.lw y.oM,.list .self (y.aO.map aD.C)],.b 4 aD λy=>[.li y.bS,.li y.eU,.ls y.cX,.lw y.oM,.list .self (y.aO.map aD.C)]] [0,2,3,4,6,23] [2,3] [] none .z (.j 2 14 26 [.v 51 Bool λy=>.lb y] [0,2,3,4,6] [0,6,2,3,4] [] none .z (.c .z (.j 1 2 47 [.b 0 aE λy=>(aE.C y),.b 6 aD λy=>(aD.C y)] [0,4,6] [4] [(6,4)] none .z .z))))) q m (mO.eq_1 _ _ _ _ _ _) h))
theorem Ak {dN} (sI:iK dN) (n:Nat):rE (lE dN n):=haveI:nQ 179 (iK dN):=⟨sI⟩;λa0 a1 r h q m vs P0 P1 P2 ⟨hv,hmP0,hmP1,hmP2,_,_,_,_,_,_,_,_⟩=>SC.wva hv (SC.ac hmP0 λ_ _ _=>SC.ac hmP1 λ_ _ _=>SC.ac hmP2 λ_ _ _=>dB func215 call215 ntmps215 results215 rfl (wk .z q m (lE.eq_1 _ _ _ _) h))
theorem pY:∀n,kM (zN n)/\iK (eK n)/\lR (FC n)/\kD (EB n)/\rE (Dd n)
 | 0=>⟨λ_ _ _ h=>dO h,λ_ _ _ h=>dO h,λ_ _ _ _ h=>dO h,λ_ _ _ h=>dO h,λ_ _ _ h=>dO h⟩
 | n+1=>
   have ih:=pY n
   ⟨vF ih.2.2.2.2 n,Dg ih.2.2.1 n,Cb ih.2.2.2.1 ih.2.2.1 n,AX ih.2.1 ih.2.2.2.1 ih.1 n,Ak ih.2.1 n⟩
theorem EF (n:Nat):iK (eK n):=(pY n).2.1
instance:nQ 179 (∀n,iK (eK n)):=⟨EF⟩
def xN (f:aE->aD->Int->Option (aD × aE)):Prop:=∀a0 a1 a2 r,f a0 a1 a2=some r->∀(q:Pa) (m:M) (vs:List V) (P0:Pa),vs.map V.weak1=[.ptr P0 0,.agg ((aD.C a1)),.li a2]/\m.blk P0=some ((aE.C a0))/\m.gl 4=.eptr [(cA cS cD)] 0 0/\m.gl 6=.eptr [(cA (cA cS) cT)] 0 0->SC prog 178 vs q m (λv Y=>v=.agg ((aD.C r.1))/\Y=(m.set P0 ((aE.C r.2))))
theorem DH (n:Nat):xN (lF n):=λa0 a1 a2 r h q m vs P0 ⟨hv,hmP0,_,_⟩=>SC.wva hv (SC.ac hmP0 λ_ _ _=>dB func178 call178 ntmps178 results178 rfl (wk .z q m (lF.eq_1 _ _ _ _) h))
instance:nQ 178 (∀n,xN (lF n)):=⟨DH⟩
def Dc (f:aE->Int->Option (aD × aE)):Prop:=∀a0 a1 r,f a0 a1=some r->∀(q:Pa) (m:M) (vs:List V) (P0:Pa) (P1:Pa) (P2:Pa),vs.map V.weak1=[.ptr P1 0,.ptr P2 0]/\m.blk P0=some ((aE.C a0))/\m.blk P1=some ([.ptr P0 0])/\m.blk P2=some ([.li a1])/\(P0=P1)=False/\(P0=P2)=False/\(P1=P0)=False/\(P1=P2)=False/\(P2=P0)=False/\(P2=P1)=False/\m.gl 4=.eptr [(cA cS cD)] 0 0/\m.gl 6=.eptr [(cA (cA cS) cT)] 0 0->SC prog 201 vs q m (λv Y=>v=.agg ((aD.C r.1))/\Y=(m.set P0 ((aE.C r.2))))
theorem Ca (n:Nat):Dc (nZ n):=λa0 a1 r h q m vs P0 P1 P2 ⟨hv,hmP0,hmP1,hmP2,_,_,_,_,_,_,_,_⟩=>SC.wva hv (SC.ac hmP0 λ_ _ _=>SC.ac hmP1 λ_ _ _=>SC.ac hmP2 λ_ _ _=>dB func201 call201 ntmps201 results201 rfl (wk .z q m (nZ.eq_1 _ _ _) h))
def sR (f:aE->Int->Option ((List aD) × aE)):Prop:=∀a0 a1 r,f a0 a1=some r->∀(q:Pa) (m:M) (vs:List V) (P0:Pa) (P1:Pa) (P2:Pa),vs.map V.weak1=[.ptr P0 0,.fn (.func 201) [] [.ptr P1 0,.ptr P2 0]]/\m.blk P0=some ((aE.C a0))/\m.blk P1=some ([.ptr P0 0])/\m.blk P2=some ([.li a1])/\(P0=P1)=False/\(P0=P2)=False/\(P1=P0)=False/\(P1=P2)=False/\(P2=P0)=False/\(P2=P1)=False/\m.gl 4=.eptr [(cA cS cD)] 0 0/\m.gl 6=.eptr [(cA (cA cS) cT)] 0 0->SC prog 121 vs q m (λv Y=>v=.list .none (r.1.map aD.C)/\Y=(m.set P0 ((aE.C r.2))))
theorem yR (n:Nat):sR (gX n):=by
 rintro a0 a1 r h q m vs P0 P1 P2 ⟨hv,hmP0,hmP1,hmP2,hn0_1,hn0_2,hn1_0,hn1_2,hn2_0,hn2_1,hg4,hg6⟩;refine SC.wv hv ?_;refine SC.apart hmP0 λhpP0=>?_;refine SC.apart hmP1 λhpP1=>?_;refine SC.apart hmP2 λhpP2=>?_;have l0:=Ht hmP0
 try simp only [go_sem,seval] at hmP0 l0
 skip
 try simp only [go_sem,seval] at hmP2
 refine sY func121 call121 ntmps121 results121 ?_;unfold gX at h;refine aK (aQ λ_ z=>?_);have K1:=qJ2 hg4 hg6;simp only [go_sem,seval,bT hpP0,bT hpP1,bT hpP2,hn0_1,hn0_2,hn1_0,hn1_2,hn2_0,hn2_1,hmP0,hmP1,hmP2,K1];apply z;simp only [aC,aA];refine aK (aQ λ_ z=>?_);simp only [go_sem,seval,bT hpP0,bT hpP1,bT hpP2,hn0_1,hn0_2,hn1_0,hn1_2,hn2_0,hn2_1,hmP0,hmP1,hmP2,K1];apply z;simp only [aC,aA];refine aK ?_;obtain ⟨x1,h2,h⟩:=aI h;refine aQ λ_ z=>?_;simp only [go_sem,seval,bT hpP0,bT hpP1,bT hpP2,hn0_1,hn0_2,hn1_0,hn1_2,hn2_0,hn2_1,hmP0,hmP1,hmP2,K1];refine SC.by_ (oA n a0 ([40]:cF) _ h2 _ _ _ P0 (by simp only [go_sem,seval,bT hpP0,bT hpP1,bT hpP2,hn0_1,hn0_2,hn1_0,hn1_2,hn2_0,hn2_1,hmP0,hmP1,hmP2,K1])) ?_;simp only [go_sem,seval,bT hpP0,bT hpP1,bT hpP2,hn0_1,hn0_2,hn1_0,hn1_2,hn2_0,hn2_1,hmP0,hmP1,hmP2,K1];apply z;simp only [aC,aA];refine aK (aK ?_);obtain ⟨x3,h4,h⟩:=aI h;refine aQ λ_ z=>?_;simp only [go_sem,seval,bT hpP0,bT hpP1,bT hpP2,hn0_1,hn0_2,hn1_0,hn1_2,hn2_0,hn2_1,hmP0,hmP1,hmP2,K1];refine SC.by_ (nX n x1 ([41]:cF) _ h4 _ _ _ P0 (by simp only [go_sem,seval,bT hpP0,bT hpP1,bT hpP2,hn0_1,hn0_2,hn1_0,hn1_2,hn2_0,hn2_1,hmP0,hmP1,hmP2,K1])) ?_;simp only [go_sem,seval,bT hpP0,bT hpP1,bT hpP2,hn0_1,hn0_2,hn1_0,hn1_2,hn2_0,hn2_1,hmP0,hmP1,hmP2,K1];apply z;simp only [aC,aA];refine eT h (λc5 h=>?_) (λc5 h=>?_)
 ·refine aK (aQ λ_ z=>?_);simp only [go_sem,seval,bT hpP0,bT hpP1,bT hpP2,hn0_1,hn0_2,hn1_0,hn1_2,hn2_0,hn2_1,c5,hmP0,hmP1,hmP2,K1];apply z;simp only [aC,aA];refine cU ?_
  try simp only [aU,aR]
  cases h;refine ⟨by simp,?_⟩;simp only [go_sem,seval,aW,aV,aP,aZ,bE hpP0,bE hpP1,bE hpP2,l0,bT hpP0,bT hpP1,bT hpP2,hn0_1,hn0_2,hn1_0,hn1_2,hn2_0,hn2_1,c5,hmP0,hmP1,hmP2,K1]
 ·refine cN ?_
  try simp only [aC,aA]
  refine aK ?_;obtain ⟨y6,j6,h⟩:=aI h;refine yL 8 (λX Y=>∃(oy6_5:Pa) (jy6_5:Nat),X 0=.ptr P0 0/\X 5=.list (.st (.anon oy6_5 jy6_5)) (y6.1.map aD.C)/\Y.tok oy6_5 jy6_5=true/\q <:+ oy6_5/\Y.blk P0=some ((aE.C y6.2))/\Y.blk P1=some ([.ptr P0 0])/\Y.blk P2=some ([.li a1])/\Y.gl=m.gl/\m.back q Y=(m.set P0 ((aE.C y6.2)))) ?_ ?_
  ·refine dM ?_;obtain ⟨y10,j10,j6⟩:=aI j6;refine BV 5 ([].map aD.C) rfl (by simp only [go_sem,seval,bT hpP0,bT hpP1,bT hpP2,hn0_1,hn0_2,hn1_0,hn1_2,hn2_0,hn2_1,c5,hmP0,hmP1,hmP2,K1]) ?_;refine wZ (λc X Y=>∃v8 v9 o_v8 j_v8,fQ n a1 c v8 v9=some y10/\X 0=.ptr P0 0/\X 1=.fn (.func 201) [] [.ptr P1 0,.ptr P2 0]/\X 5=.list (.st (.anon o_v8 j_v8)) (v8.map aD.C)/\Y.tok o_v8 j_v8=true/\q <:+ o_v8/\Y.blk P0=some ((aE.C v9))/\Y.blk P1=some ([.ptr P0 0])/\Y.blk P2=some ([.li a1])/\Y.gl=m.gl/\m.back q Y=(m.set P0 ((aE.C v9)))) n ⟨[],x3.2,(6::q),0,j10,?_⟩ ?_
   ·simp only [go_sem,seval,aW,aV,aP,aZ,bE hpP0,bE hpP1,bE hpP2,l0,bT hpP0,bT hpP1,bT hpP2,hn0_1,hn0_2,hn1_0,hn1_2,hn2_0,hn2_1,c5,hmP0,hmP1,hmP2,K1]
   rintro i7 c11 E12 m13 ⟨v8,v9,o_v8,j_v8,j10,e14⟩ _
   rcases c11 with _ | c11
   ·cases j10
   rw [fQ] at j10;refine aK (aK (aQ λ_ z=>?_));have K2:=qJ3 K1 c5 e14;simp only [go_sem,seval,bT hpP0,bT hpP1,bT hpP2,hn0_1,hn0_2,hn1_0,hn1_2,hn2_0,hn2_1,K2];apply z;simp only [aC,aA];refine eT j10 (λc15 j10=>?_) (λc15 j10=>?_)
   ·refine cN ?_
    try simp only [aC,aA]
    refine dM (aK ?_);obtain ⟨x16,h17,j10⟩:=aI j10;obtain ⟨f18,j10⟩:=cH j10;have f19:v8.length+1<=1073741824:=by first | omega | (simp only [mB,dT,eI] at f18 ⊢;omega)
    have f20:v8.length<=1073741823:=by first | omega | (simp only [mB,dT,eI] at f18 ⊢;omega)
    refine aQ λ_ z=>?_;have K3:=qJ5 K2 c15 f18 f19 f20;simp only [go_sem,seval,bT hpP0,bT hpP1,bT hpP2,hn0_1,hn0_2,hn1_0,hn1_2,hn2_0,hn2_1,K3];refine SC.by_ (Ca n v9 a1 _ h17 _ _ _ P0 P1 P2 (by simp only [go_sem,seval,bT hpP0,bT hpP1,bT hpP2,hn0_1,hn0_2,hn1_0,hn1_2,hn2_0,hn2_1,K3])) ?_;simp only [go_sem,seval,bT hpP0,bT hpP1,bT hpP2,hn0_1,hn0_2,hn1_0,hn1_2,hn2_0,hn2_1,K3];apply z;simp only [aC,aA];refine aK ?_;obtain ⟨x21,h22,j10⟩:=aI j10;refine aQ λ_ z=>?_;simp only [go_sem,seval,bT hpP0,bT hpP1,bT hpP2,hn0_1,hn0_2,hn1_0,hn1_2,hn2_0,hn2_1,K3];refine SC.by_ (nX n x16.2 ([44]:cF) _ h22 _ _ _ P0 (by simp only [go_sem,seval,bT hpP0,bT hpP1,bT hpP2,hn0_1,hn0_2,hn1_0,hn1_2,hn2_0,hn2_1,K3])) ?_;simp only [go_sem,seval,bT hpP0,bT hpP1,bT hpP2,hn0_1,hn0_2,hn1_0,hn1_2,hn2_0,hn2_1,K3];apply z;simp only [aC,aA];refine eT j10 (λc23 j10=>?_) (λc23 j10=>?_)
    ·refine lV ?_
     try simp only [seval,bD,aY,aC,aA]
     cases j10;cases j6;refine ⟨by decide,(9::i7::7::q),0,?_⟩;simp only [go_sem,seval,aW,aV,aP,aZ,bE hpP0,bE hpP1,bE hpP2,l0,bT hpP0,bT hpP1,bT hpP2,hn0_1,hn0_2,hn1_0,hn1_2,hn2_0,hn2_1,c23,K3]
    ·refine cN ?_
     try simp only [aC,aA]
     refine ⟨c11,MU _,(v8++[x16.1]),x21.2,(9::i7::7::q),0,j10,?_⟩;simp only [go_sem,seval,aW,aV,aP,aZ,bE hpP0,bE hpP1,bE hpP2,l0,bT hpP0,bT hpP1,bT hpP2,hn0_1,hn0_2,hn1_0,hn1_2,hn2_0,hn2_1,c23,K3]
   ·refine lV ?_
    try simp only [seval,bD,aY,aC,aA]
    cases j10;cases j6;refine ⟨by decide,o_v8,j_v8,?_⟩;simp only [go_sem,seval,aW,aV,aP,aZ,bE hpP0,bE hpP1,bE hpP2,l0,bT hpP0,bT hpP1,bT hpP2,hn0_1,hn0_2,hn1_0,hn1_2,hn2_0,hn2_1,c15,K2]
  ·rintro E24 m25 ⟨oy6_5,jy6_5,e26⟩ _;simp only [aC,aA];refine aK ?_;obtain ⟨x27,h28,h⟩:=aI h;refine aQ λ_ z=>?_;have K4:=qJ3 K1 c5 e26;simp only [go_sem,seval,bT hpP0,bT hpP1,bT hpP2,hn0_1,hn0_2,hn1_0,hn1_2,hn2_0,hn2_1,K4];refine SC.by_ (oA n y6.2 ([41]:cF) _ h28 _ _ _ P0 (by simp only [go_sem,seval,bT hpP0,bT hpP1,bT hpP2,hn0_1,hn0_2,hn1_0,hn1_2,hn2_0,hn2_1,K4])) ?_;simp only [go_sem,seval,bT hpP0,bT hpP1,bT hpP2,hn0_1,hn0_2,hn1_0,hn1_2,hn2_0,hn2_1,K4];apply z;simp only [aC,aA];refine aK (aQ λ_ z=>?_);simp only [go_sem,seval,bT hpP0,bT hpP1,bT hpP2,hn0_1,hn0_2,hn1_0,hn1_2,hn2_0,hn2_1,K4];apply z;simp only [aC,aA];refine cU ?_
   try simp only [aU,aR]
   cases h;refine ⟨by simp,?_⟩;simp only [go_sem,seval,aW,aV,aP,aZ,bE hpP0,bE hpP1,bE hpP2,l0,bT hpP0,bT hpP1,bT hpP2,hn0_1,hn0_2,hn1_0,hn1_2,hn2_0,hn2_1,K4]
def xL (f:aE->aD->Int->Option (aD × aE)):Prop:=∀a0 a1 a2 r,f a0 a1 a2=some r->∀(q:Pa) (m:M) (vs:List V) (P0:Pa),vs.map V.weak1=[.ptr P0 0,.agg ((aD.C a1)),.li a2]/\m.blk P0=some ((aE.C a0))/\m.gl 4=.eptr [(cA cS cD)] 0 0/\m.gl 6=.eptr [(cA (cA cS) cT)] 0 0->SC prog 182 vs q m (λv Y=>v=.agg ((aD.C r.1))/\Y=(m.set P0 ((aE.C r.2))))
theorem DF (n:Nat):xL (nC n):=λa0 a1 a2 r h q m vs P0 ⟨hv,hmP0,_,_⟩=>SC.wva hv (SC.ac hmP0 λ_ _ _=>haveI:nQ 121 (∀n,sR (gX n)):=⟨yR⟩;dB func182 call182 ntmps182 results182 rfl (wk (.j 1 0 37 [.b 0 aE λy=>(aE.C y),.b 4 aD λy=>(aD.C y)] [0,3,4,6] [3,6] [(4,4)] none .z .z) q m (nC.eq_1 _ _ _ _) h))
instance:nQ 182 (∀n,xL (nC n)):=⟨DF⟩
def hY (f:aE->Int->Option (aD × aE)):Prop:=∀a0 a1 r,f a0 a1=some r->∀(q:Pa) (m:M) (vs:List V) (P0:Pa),vs.map V.weak1=[.ptr P0 0,.li a1]/\m.blk P0=some ((aE.C a0))/\m.gl 4=.eptr [(cA cS cD)] 0 0/\m.gl 6=.eptr [(cA (cA cS) cT)] 0 0->SC prog 123 vs q m (λv Y=>v=.agg ((aD.C r.1))/\Y=(m.set P0 ((aE.C r.2))))
def nY (f:aE->Int->Option (aD × aE)):Prop:=∀a0 a1 r,f a0 a1=some r->∀(q:Pa) (m:M) (vs:List V) (P0:Pa),vs.map V.weak1=[.ptr P0 0,.li a1]/\m.blk P0=some ((aE.C a0))/\m.gl 4=.eptr [(cA cS cD)] 0 0/\m.gl 6=.eptr [(cA (cA cS) cT)] 0 0->SC prog 158 vs q m (λv Y=>v=.agg ((aD.C r.1))/\Y=(m.set P0 ((aE.C r.2))))
def qA (f:aE->aD->Int->Option (aD × aE)):Prop:=∀a0 a1 a2 r,f a0 a1 a2=some r->∀(q:Pa) (m:M) (vs:List V) (P0:Pa),vs.map V.weak1=[.ptr P0 0,.agg ((aD.C a1)),.li a2]/\m.blk P0=some ((aE.C a0))/\m.gl 4=.eptr [(cA cS cD)] 0 0/\m.gl 6=.eptr [(cA (cA cS) cT)] 0 0->SC prog 180 vs q m (λv Y=>v=.agg ((aD.C r.1))/\Y=(m.set P0 ((aE.C r.2))))
def rL (f:aE->aD->Int->Option (aD × aE)):Prop:=∀a0 a1 a2 r,f a0 a1 a2=some r->∀(q:Pa) (m:M) (vs:List V) (P0:Pa),vs.map V.weak1=[.ptr P0 0,.agg ((aD.C a1)),.li a2]/\m.blk P0=some ((aE.C a0))/\m.gl 4=.eptr [(cA cS cD)] 0 0/\m.gl 6=.eptr [(cA (cA cS) cT)] 0 0->SC prog 181 vs q m (λv Y=>v=.agg ((aD.C r.1))/\Y=(m.set P0 ((aE.C r.2))))
theorem Cc {eM} (Aq:nY eM) (n:Nat):hY (oC eM n):=haveI:nQ 158 (nY eM):=⟨Aq⟩;λa0 a1 r h q m vs P0 ⟨hv,hmP0,_,_⟩=>SC.wva hv (SC.ac hmP0 λ_ _ _=>dB func123 call123 ntmps123 results123 rfl (wk (.l [.b 0 aE λy=>(aE.C y),.b 5 aD λy=>[.li y.bS,.li y.eU,.ls y.cX,.lw y.oM,.list .self (y.aO.map aD.C)]] [0,1,4,5] [4] [] none (.j 2 4 10 [.v 22 Bool λy=>.lb y] [0,1,4,5] [0,4,5] [] none .z .z) .z) q m (oC.eq_1 _ _ _ _) h))
theorem Aj {lY} (BM:qA lY) {nB} (Dx:rL nB) (n:Nat):nY (lD lY nB n):=haveI:nQ 180 (qA lY):=⟨BM⟩;haveI:nQ 181 (rL nB):=⟨Dx⟩;λa0 a1 r h q m vs P0 ⟨hv,hmP0,_,_⟩=>SC.wva hv (SC.ac hmP0 λ_ _ _=>dB func158 call158 ntmps158 results158 rfl (wk (.j 11 0 26 [.b 0 aE λy=>(aE.C y),.b 5 aD λy=>[.li y.bS,.li y.eU,.ls y.cX,.lw y.oM,.list .self (y.aO.map aD.C)]] [0,4,5] [4] [] none .z .z) q m (lD.eq_1 _ _ _ _ _) h))
theorem By {dI} (rT:hY dI) (n:Nat):qA (nE dI n):=haveI:nQ 123 (hY dI):=⟨rT⟩;λa0 a1 a2 r h q m vs P0 ⟨hv,hmP0,_,_⟩=>SC.wva hv (SC.ac hmP0 λ_ _ _=>dB func180 call180 ntmps180 results180 rfl (wk .z q m (nE.eq_1 _ _ _ _ _) h))
theorem Df {dI} (rT:hY dI) (n:Nat):rL (oZ dI n):=haveI:nQ 123 (hY dI):=⟨rT⟩;λa0 a1 a2 r h q m vs P0 ⟨hv,hmP0,_,_⟩=>SC.wva hv (SC.ac hmP0 λ_ _ _=>dB func181 call181 ntmps181 results181 rfl (wk .z q m (oZ.eq_1 _ _ _ _ _) h))
theorem uB:∀n,hY (eA n)/\nY (Db n)/\qA (Fe n)/\rL (Gp n)
 | 0=>⟨λ_ _ _ h=>dO h,λ_ _ _ h=>dO h,λ_ _ _ _ h=>dO h,λ_ _ _ _ h=>dO h⟩
 | n+1=>
   have ih:=uB n
   ⟨Cc ih.2.1 n,Aj ih.2.2.1 ih.2.2.2 n,By ih.1 n,Df ih.1 n⟩
theorem DI (n:Nat):hY (eA n):=(uB n).1
instance:nQ 123 (∀n,hY (eA n)):=⟨DI⟩
def uY (f:aE->Option (aD × aE)):Prop:=∀a0 r,f a0=some r->∀(q:Pa) (m:M) (vs:List V) (P0:Pa),vs.map V.weak1=[.ptr P0 0]/\m.blk P0=some ((aE.C a0))/\m.gl 4=.eptr [(cA cS cD)] 0 0/\m.gl 6=.eptr [(cA (cA cS) cT)] 0 0->SC prog 87 vs q m (λv Y=>v=.agg ((aD.C r.1))/\Y=(m.set P0 ((aE.C r.2))))
theorem Bx (n:Nat):uY (kR n):=λa0 r h q m vs P0 ⟨hv,hmP0,_,_⟩=>SC.wva hv (SC.ac hmP0 λ_ _ _=>haveI:nQ 121 (∀n,tP (fG n)):=⟨Al⟩;dB func87 call87 ntmps87 results87 rfl (wk .z q m (kR.eq_1 _ _) h))
instance:nQ 87 (∀n,uY (kR n)):=⟨Bx⟩
def KW (f:cF->Option (aD × Int × Int)):Prop:=∀a0 r,f a0=some r->∀(q:Pa) (m:M) (vs:List V),vs.map V.weak1=[.list .none (pR a0)]/\m.gl 3=.eptr [(cA cS eV)] 0 0/\m.gl 4=.eptr [(cA cS cD)] 0 0/\m.gl 6=.eptr [(cA (cA cS) cT)] 0 0->SC prog 56 vs q m (λv Y=>v=.tup [.agg ((aD.C r.1)),.li r.2.1,.li r.2.2]/\Y=m)
theorem JO (n:Nat):KW (Ai n):=λa0 r h q m vs ⟨hv,_,_,_⟩=>SC.wva hv (dB func56 call56 ntmps56 results56 rfl (wk (.c .z (.l [.b 8 aE λy=>(aE.C y),.b 9 aD λy=>[.li y.bS,.li y.eU,.ls y.cX,.lw y.oM,.list .self (y.aO.map aD.C)]] [2,8,9] [2] [] none (.j 2 6 11 [.v 36 Bool λy=>.lb y] [2,8,9] [2,8,9] [] none .z .z) .z)) q m (Ai.eq_1 _ _) h))
def xU (f:aG->aH->Int->Int->Option aH):Prop:=∀a0 a1 a2 a3 r,f a0 a1 a2 a3=some r->∀(q:Pa) (m:M) (vs:List V) (P0:Pa) (F0 fp0 S0 C0:V),vs.map V.weak1=[.ptr P0 0,.li a2,.li a3]/\m.blk P0=some (qK F0 fp0 S0 C0 a0 a1)/\cW F0 fp0 S0 C0 m.hp a0->SC prog 95 vs q m (λv Y=>v=.tup []/\Y=(m.set P0 (qK F0 fp0 S0 C0 a0 r)))
theorem DR:xU (pP):=λa0 a1 a2 a3 r h q m vs P0 F0 fp0 S0 C0 ⟨hv,hmP0,t0⟩=>SC.wva hv (SC.ac hmP0 λ_ _ _=>dB func95 call95 ntmps95 results95 rfl (wk .z q m (pP.eq_1 _ _ _ _) h))
instance:nQ 95 (xU pP):=⟨DR⟩
def xQ (f:aG->aH->Bool->Int->Int->Option aH):Prop:=∀a0 a1 a2 a3 a4 r,f a0 a1 a2 a3 a4=some r->∀(q:Pa) (m:M) (vs:List V) (P0:Pa) (F0 fp0 S0 C0:V),vs.map V.weak1=[.ptr P0 0,.lb a2,.li a3,.li a4]/\m.blk P0=some (qK F0 fp0 S0 C0 a0 a1)/\cW F0 fp0 S0 C0 m.hp a0->SC prog 60 vs q m (λv Y=>v=.tup []/\Y=(m.set P0 (qK F0 fp0 S0 C0 a0 r)))
theorem bN:xQ (bB):=λa0 a1 a2 a3 a4 r h q m vs P0 F0 fp0 S0 C0 ⟨hv,hmP0,t0⟩=>SC.wva hv (SC.ac hmP0 λ_ _ _=>dB func60 call60 ntmps60 results60 rfl (wk .z q m (bB.eq_1 _ _ _ _ _) h))
instance:nQ 60 (xQ bB):=⟨bN⟩
