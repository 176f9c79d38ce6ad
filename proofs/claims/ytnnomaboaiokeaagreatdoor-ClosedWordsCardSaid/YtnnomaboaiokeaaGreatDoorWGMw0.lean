import Derived.Test.YtnnomaboaiokeaaGreatDoorWH4
import Derived.Test.YtnnomaboaiokeaaGreatDoorWAw
namespace Go.Proofs.YtnnomaboaiokeaaGreatDoor.Abs
open Go.RowKit Tryz
open IntKind (i64 u32 u64 u8)
set_option linter.all false
set_option maxRecDepth 10000
set_option maxHeartbeats 2000000
open Tryz
instance:LE bJ.C 2:=⟨λx=>by rw [bJ.C_eq];rfl⟩
instance:LE bY.C 2:=⟨λx=>by rw [bY.C_eq];rfl⟩
instance:ST fH 26:=⟨by decide⟩
instance:ST cM 5:=⟨by decide⟩
instance:ST eB 15:=⟨by decide⟩
def Ja (f:Int->Option Bool):Prop:=∀a0 r,f a0=some r->Bi prog 146 [.lit (.int .u8 a0)] (.lb r)
theorem MJ:Ja (Bx):=λa0 r h q m vs hv=>SC.wva hv (cZ func146 call146 ntmps146 results146 rfl (wk (.j 2 1 16 [.v 2 Bool λy=>.lb y] [] [] [] none .z .z) q m (Bx.eq_1 _) h))
instance:nB 146 (Ja Bx):=⟨MJ⟩
def sQ (f:cF->cF->Option Bool):Prop:=∀a0 a1 r,f a0 a1=some r->Bi prog 173 [.ls a0,.ls a1] (.lb r)
theorem xT:sQ (fI):=λa0 a1 r h q m vs hv=>SC.wva hv (cZ func173 call173 ntmps173 results173 rfl (wk (.j 2 1 15 [.v 4 Bool λy=>.lb y] [] [] [] none .z .z) q m (fI.eq_1 _ _) h))
instance:nB 173 (sQ fI):=⟨xT⟩
def Ba (f:cF->cF->Option Bool):Prop:=∀a0 a1 r,f a0 a1=some r->Bi prog 147 [.ls a0,.ls a1] (.lb r)
theorem FO:Ba (nY):=λa0 a1 r h q m vs hv=>SC.wva hv (cZ func147 call147 ntmps147 results147 rfl (wk .z q m (nY.eq_1 _ _) h))
instance:nB 147 (Ba nY):=⟨FO⟩
def rP (f:cF->Int->Option Int):Prop:=∀a0 a1 r,f a0 a1=some r->Bi prog 197 [.ls a0,.lit (.int .u8 a1)] (.li r)
theorem wF:rP oO:=by
 intro a0 a1 r h q m vs hv;refine SC.weak ?_;rw [hv];cases h;intro c xs w h1 h2 h3;obtain ⟨x,xs,rfl,k1,k2⟩:=h2.uncons;obtain ⟨y,rfl,k3⟩:=k2.inv_one;obtain rfl:=k1.inv_lit;obtain rfl:=k3.inv_lit;refine .inr ⟨.int .i64 (Lib.indexByte a0 a1.toNat.toUInt8),w,?_,_,c,_,m,rfl,⟨rfl,rfl⟩,h1,.refl q c m w,.lit .nil⟩;rw [run_callFunc_extern (fn:=f197) (e:=Extern.BytealgIndexByte.indexByte) func197 (by kernel_rfl) (by kernel_rfl) (by kernel_rfl) (by rfl)];have:=Lib.run_indexByteString (P:=prog) (bs a0) a1 w;rw [this];rfl
instance:nB 197 (rP oO):=⟨wF⟩
def sP (f:cF->Int->Option Int):Prop:=∀a0 a1 r,f a0 a1=some r->Bi prog 174 [.ls a0,.lit (.int .u8 a1)] (.li r)
theorem xS:sP (lY):=λa0 a1 r h q m vs hv=>SC.wva hv (cZ func174 call174 ntmps174 results174 rfl (wk .z q m (lY.eq_1 _ _) h))
instance:nB 174 (sP lY):=⟨xS⟩
def AZ (f:cF->Int->Option Int):Prop:=∀a0 a1 r,f a0 a1=some r->Bi prog 148 [.ls a0,.lit (.int .u8 a1)] (.li r)
theorem FN:AZ (nX):=λa0 a1 r h q m vs hv=>SC.wva hv (cZ func148 call148 ntmps148 results148 rfl (wk .z q m (nX.eq_1 _ _) h))
instance:nB 148 (AZ nX):=⟨FN⟩
def Ky (f:cF->Int->Option Int):Prop:=∀a0 a1 r,f a0 a1=some r->Bi prog 115 [.ls a0,.li a1] (.li r)
theorem Ol (n:Nat):Ky (BZ n):=λa0 a1 r h q m vs hv=>SC.wva hv (cZ func115 call115 ntmps115 results115 rfl (wk (.l [.v 1 Int λy=>.li y] [0] [] [] none .z .z) q m (BZ.eq_1 _ _ _) h))
instance:nB 115 (∀n,Ky (BZ n)):=⟨Ol⟩
def Ia (f:Int->Option Bool):Prop:=∀a0 r,f a0=some r->Bi prog 150 [.lit (.int .u8 a0)] (.lb r)
theorem Lw:Ia (wT):=λa0 r h q m vs hv=>SC.wva hv (cZ func150 call150 ntmps150 results150 rfl (wk (.j 2 1 12 [.v 2 Bool λy=>.lb y] [] [] [] none .z .z) q m (wT.eq_1 _) h))
instance:nB 150 (Ia wT):=⟨Lw⟩
def Jb (f:Int->Option Bool):Prop:=∀a0 r,f a0=some r->Bi prog 151 [.lit (.int .u8 a0)] (.lb r)
theorem MK:Jb (Af):=λa0 r h q m vs hv=>SC.wva hv (cZ func151 call151 ntmps151 results151 rfl (wk (.j 2 1 8 [.v 2 Bool λy=>.lb y] [] [] [] none .z .z) q m (Af.eq_1 _) h))
instance:nB 151 (Jb Af):=⟨MK⟩
def Kx (f:cF->Option cF):Prop:=∀a0 r,f a0=some r->Bi prog 149 [.ls a0] (.ls r)
theorem Oj (n:Nat):Kx (Eo n):=λa0 r h q m vs hv=>SC.wva hv (cZ func149 call149 ntmps149 results149 rfl (wk (.l [.v 6 Int λy=>.li y] [0,5] [] [] none (.c (.j 2 4 15 [.v 20 Bool λy=>.lb y] [0,3,5,6] [] [] none .z .z) .z) .z) q m (Eo.eq_1 _ _) h))
instance:nB 149 (∀n,Kx (Eo n)):=⟨Oj⟩
def sR (f:cF->cF->Option (cF × Bool)):Prop:=∀a0 a1 r,f a0 a1=some r->Bi prog 198 [.ls a0,.ls a1] (.tup [.ls r.1,.lb r.2])
theorem xU:sR (iY):=λa0 a1 r h q m vs hv=>SC.wva hv (cZ func198 call198 ntmps198 results198 rfl (wk .z q m (iY.eq_1 _ _) h))
instance:nB 198 (sR iY):=⟨xU⟩
def Bb (f:cF->cF->Option (cF × Bool)):Prop:=∀a0 a1 r,f a0 a1=some r->Bi prog 175 [.ls a0,.ls a1] (.tup [.ls r.1,.lb r.2])
theorem FP:Bb (qB):=λa0 a1 r h q m vs hv=>SC.wva hv (cZ func175 call175 ntmps175 results175 rfl (wk .z q m (qB.eq_1 _ _) h))
instance:nB 175 (Bb qB):=⟨FP⟩
def IZ (f:cF->Option (Int × Bool)):Prop:=∀a0 r,f a0=some r->Bi prog 152 [.ls a0] (.tup [.lw r.1,.lb r.2])
theorem MI (n:Nat):IZ (Bw n):=λa0 r h q m vs hv=>SC.wva hv (cZ func152 call152 ntmps152 results152 rfl (wk (.c (.l [.v 7 Int λy=>.li y,.v 19 Int λy=>.li y] [0,4,18] [] [] none (.c (.j 2 11 22 [.v 38 Bool λy=>.lb y] [0,4,7,18,19] [] [] none .z .z) .z) .z) (.l [.v 7 Int λy=>.li y,.v 19 Int λy=>.li y] [0,4,18] [] [] none (.c (.j 2 11 22 [.v 38 Bool λy=>.lb y] [0,4,7,18,19] [] [] none .z .z) .z) .z)) q m (Bw.eq_1 _ _) h))
instance:nB 152 (∀n,IZ (Bw n)):=⟨MI⟩
def Kz (f:cF->Option cF):Prop:=∀a0 r,f a0=some r->∀(q:Pa) (m:M) (vs:List V),vs.map V.weak1=[.ls a0]/\m.gl 3=.eptr [(cA cS fH)] 0 0->SC prog 153 vs q m (λv Y=>v=.ls r/\Y=m)
theorem Om (n:Nat):Kz (Ep n):=λa0 r h q m vs ⟨hv,_⟩=>SC.wva hv (cZ func153 call153 ntmps153 results153 rfl (wk (.l [.v 6 Int λy=>.li y] [0,5] [] [] none .z .z) q m (Ep.eq_1 _ _) h))
instance:nB 153 (∀n,Kz (Ep n)):=⟨Om⟩
def KA (f:cF->Int->Option (dJ × Int)):Prop:=∀a0 a1 r,f a0 a1=some r->∀(q:Pa) (m:M) (vs:List V),vs.map V.weak1=[.ls a0,.li a1]/\m.gl 3=.eptr [(cA cS fH)] 0 0->SC prog 116 vs q m (λv Y=>v=.tup [.agg ((dJ.C r.1)),.li r.2]/\Y=m)
theorem On (n:Nat):KA (Eq n):=λa0 a1 r h q m vs ⟨hv,_⟩=>SC.wva hv (cZ func116 call116 ntmps116 results116 rfl (wk .z q m (Eq.eq_1 _ _ _) h))
instance:nB 116 (∀n,KA (Eq n)):=⟨On⟩
def HZ (f:cF->Option ((List dJ) × Int × Int)):Prop:=∀a0 r,f a0=some r->∀(q:Pa) (m:M) (vs:List V),vs.map V.weak1=[.list .none (pZ a0)]/\m.gl 3=.eptr [(cA cS fH)] 0 0->SC prog 84 vs q m (λv Y=>v=.tup [.list .none (r.1.map dJ.C),.li r.2.1,.li r.2.2]/\Y=m)
theorem Lv (n:Nat):HZ (Ae n):=λa0 r h q m vs ⟨hv,_⟩=>SC.wva hv (cZ func84 call84 ntmps84 results84 rfl (wk (.c .z (.s 6 (.l [.o 6 (List dJ) λy=>(y.map dJ.C),.v 7 Int λy=>.li y] [5] [] [] none .z .z))) q m (Ae.eq_1 _ _) h))
instance:nB 84 (∀n,HZ (Ae n)):=⟨Lv⟩
def yC (f:aE->Option dJ):Prop:=∀a0 r,f a0=some r->∀(q:Pa) (m:M) (vs:List V) (P0:Pa),vs.map V.weak1=[.ptr P0 0]/\m.blk P0=some ((aE.C a0))->SC prog 86 vs q m (λv Y=>v=.agg ((dJ.C r))/\Y=m)
theorem DV:yC (dM):=λa0 r h q m vs P0 ⟨hv,hmP0⟩=>SC.wva hv (SC.ac hmP0 λ_ _ _=>cZ func86 call86 ntmps86 results86 rfl (wk .z q m (dM.eq_1 _) h))
instance:nB 86 (yC dM):=⟨DV⟩
def zO (f:aE->Int->Option aE):Prop:=∀a0 a1 r,f a0 a1=some r->∀(q:Pa) (m:M) (vs:List V) (P0:Pa),vs.map V.weak1=[.ptr P0 0,.li a1]/\m.blk P0=some ((aE.C a0))->SC prog 117 vs q m (λv Y=>v=.tup []/\Y=(m.set P0 ((aE.C r))))
theorem EU:zO (gY):=λa0 a1 r h q m vs P0 ⟨hv,hmP0⟩=>SC.wva hv (SC.ac hmP0 λ_ _ _=>cZ func117 call117 ntmps117 results117 rfl (wk .z q m (gY.eq_1 _ _) h))
instance:nB 117 (zO gY):=⟨EU⟩
def zL (f:aE->Int->Option (aD × aE)):Prop:=∀a0 a1 r,f a0 a1=some r->∀(q:Pa) (m:M) (vs:List V) (P0:Pa),vs.map V.weak1=[.ptr P0 0,.li a1]/\m.blk P0=some ((aE.C a0))->SC prog 85 vs q m (λv Y=>∃(id:Pa) (j:Nat),q <:+ id/\v=.agg ([.li r.1.bS,.li r.1.fG,.ls r.1.cY,.lw r.1.oR,.list (.st (.anon id j)) (r.1.aO.map aD.C)])/\Y=(m.set P0 ((aE.C r.2))).tokset id j true)
theorem ES:zL (eT):=λa0 a1 r h q m vs P0 ⟨hv,hmP0⟩=>SC.wva hv (SC.ac hmP0 λ_ _ _=>SC_vo func85 call85 ntmps85 results85 4 rfl λ_=>wk .z q m (eT.eq_1 _ _) h)
instance:nB 85 (zL eT):=⟨ES⟩
def tA (f:(List cF)->cF->Option Int):Prop:=∀a0 a1 r,f a0 a1=some r->Bi prog 199 [.list .none (a0.map cS),.ls a1] (.li r)
theorem zE (n:Nat):tA (kE n):=λa0 a1 r h q m vs hv=>SC.wva hv (cZ func199 call199 ntmps199 results199 rfl (wk (.l [.v 8 Int λy=>.li y] [0,1,7] [] [] none .z .z) q m (kE.eq_1 _ _ _) h))
instance:nB 199 (∀n,tA (kE n)):=⟨zE⟩
def rW (f:(List cF)->cF->Option Bool):Prop:=∀a0 a1 r,f a0 a1=some r->Bi prog 176 [.list .none (a0.map cS),.ls a1] (.lb r)
theorem wR (n:Nat):rW (iP n):=λa0 a1 r h q m vs hv=>SC.wva hv (cZ func176 call176 ntmps176 results176 rfl (wk .z q m (iP.eq_1 _ _ _) h))
instance:nB 176 (∀n,rW (iP n)):=⟨wR⟩
def HY (f:cF->Option Bool):Prop:=∀a0 r,f a0=some r->∀(q:Pa) (m:M) (vs:List V),vs.map V.weak1=[.ls a0]/\m.gl 4=.eptr [(cA cS cD)] 0 0->SC prog 155 vs q m (λv Y=>v=.lb r/\Y=m)
theorem Lr (n:Nat):HY (wS n):=λa0 r h q m vs ⟨hv,_⟩=>SC.wva hv (cZ func155 call155 ntmps155 results155 rfl (wk .z q m (wS.eq_1 _ _) h))
instance:nB 155 (∀n,HY (wS n)):=⟨Lr⟩
def Bd (f:aE->cF->Option Bool):Prop:=∀a0 a1 r,f a0 a1=some r->∀(q:Pa) (m:M) (vs:List V) (P0:Pa),vs.map V.weak1=[.ptr P0 0,.ls a1]/\m.blk P0=some ((aE.C a0))/\m.gl 4=.eptr [(cA cS cD)] 0 0->SC prog 154 vs q m (λv Y=>v=.lb r/\Y=m)
theorem AB (n:Nat):Bd (jA n):=λa0 a1 r h q m vs P0 ⟨hv,hmP0,_⟩=>SC.wva hv (SC.ac hmP0 λ_ _ _=>cZ func154 call154 ntmps154 results154 rfl (wk (.j 2 2 31 [.v 4 Bool λy=>.lb y] [0] [0] [] none .z .z) q m (jA.eq_1 _ _ _) h))
instance:nB 154 (∀n,Bd (jA n)):=⟨AB⟩
def zI (f:aE->cF->Option (Bool × aE)):Prop:=∀a0 a1 r,f a0 a1=some r->∀(q:Pa) (m:M) (vs:List V) (P0:Pa),vs.map V.weak1=[.ptr P0 0,.ls a1]/\m.blk P0=some ((aE.C a0))/\m.gl 4=.eptr [(cA cS cD)] 0 0->SC prog 118 vs q m (λv Y=>v=.lb r.1/\Y=(m.set P0 ((aE.C r.2))))
theorem oC (n:Nat):zI (bV n):=λa0 a1 r h q m vs P0 ⟨hv,hmP0,_⟩=>SC.wva hv (SC.ac hmP0 λ_ _ _=>cZ func118 call118 ntmps118 results118 rfl (wk .z q m (bV.eq_1 _ _ _) h))
instance:nB 118 (∀n,zI (bV n)):=⟨oC⟩
def zM (f:aE->cF->Option aE):Prop:=∀a0 a1 r,f a0 a1=some r->∀(q:Pa) (m:M) (vs:List V) (P0:Pa),vs.map V.weak1=[.ptr P0 0,.ls a1]/\m.blk P0=some ((aE.C a0))/\m.gl 4=.eptr [(cA cS cD)] 0 0->SC prog 119 vs q m (λv Y=>v=.tup []/\Y=(m.set P0 ((aE.C r))))
theorem oF (n:Nat):zM (bR n):=λa0 a1 r h q m vs P0 ⟨hv,hmP0,_⟩=>SC.wva hv (SC.ac hmP0 λ_ _ _=>cZ func119 call119 ntmps119 results119 rfl (wk .z q m (bR.eq_1 _ _ _) h))
instance:nB 119 (∀n,zM (bR n)):=⟨oF⟩
def zN (f:aE->Option (cF × aE)):Prop:=∀a0 r,f a0=some r->∀(q:Pa) (m:M) (vs:List V) (P0:Pa),vs.map V.weak1=[.ptr P0 0]/\m.blk P0=some ((aE.C a0))/\m.gl 4=.eptr [(cA cS cD)] 0 0->SC prog 120 vs q m (λv Y=>v=.ls r.1/\Y=(m.set P0 ((aE.C r.2))))
theorem ET (n:Nat):zN (eE n):=λa0 r h q m vs P0 ⟨hv,hmP0,_⟩=>SC.wva hv (SC.ac hmP0 λ_ _ _=>cZ func120 call120 ntmps120 results120 rfl (wk (.j 2 2 20 [.v 20 Bool λy=>.lb y] [0,3] [0,3] [] none .z .z) q m (eE.eq_1 _ _) h))
instance:nB 120 (∀n,zN (eE n)):=⟨ET⟩
def xD (f:aE->Option (Int × aE)):Prop:=∀a0 r,f a0=some r->∀(q:Pa) (m:M) (vs:List V) (P0:Pa),vs.map V.weak1=[.ptr P0 0]/\m.blk P0=some ((aE.C a0))->SC prog 177 vs q m (λv Y=>v=.lw r.1/\Y=(m.set P0 ((aE.C r.2))))
theorem Du:xD (kO):=λa0 r h q m vs P0 ⟨hv,hmP0⟩=>SC.wva hv (SC.ac hmP0 λ_ _ _=>cZ func177 call177 ntmps177 results177 rfl (wk (.j 2 2 15 [.v 15 Bool λy=>.lb y] [0,3] [0,3] [] none .z .z) q m (kO.eq_1 _) h))
instance:nB 177 (xD kO):=⟨Du⟩
def zJ (f:aE->Option (Int × aE)):Prop:=∀a0 r,f a0=some r->∀(q:Pa) (m:M) (vs:List V) (P0:Pa),vs.map V.weak1=[.ptr P0 0]/\m.blk P0=some ((aE.C a0))/\m.gl 4=.eptr [(cA cS cD)] 0 0->SC prog 156 vs q m (λv Y=>v=.lw r.1/\Y=(m.set P0 ((aE.C r.2))))
theorem EP (n:Nat):zJ (mG n):=λa0 r h q m vs P0 ⟨hv,hmP0,_⟩=>SC.wva hv (SC.ac hmP0 λ_ _ _=>cZ func156 call156 ntmps156 results156 rfl (wk .z q m (mG.eq_1 _ _) h))
instance:nB 156 (∀n,zJ (mG n)):=⟨EP⟩
def yE (f:aE->Option (aD × aE)):Prop:=∀a0 r,f a0=some r->∀(q:Pa) (m:M) (vs:List V) (P0:Pa),vs.map V.weak1=[.ptr P0 0]/\m.blk P0=some ((aE.C a0))/\m.gl 4=.eptr [(cA cS cD)] 0 0->SC prog 122 vs q m (λv Y=>v=.agg ((aD.C r.1))/\Y=(m.set P0 ((aE.C r.2))))
instance:ST kW 3:=⟨by decide⟩
@[go_sem low] theorem Lg {n:Nat}:List.drop n [V.lit (.string (bs ([112,117,98]:cF))),V.lit (.string (bs ([117,51,50]:cF))),V.lit (.string (bs ([117,54,52]:cF)))]=Oc cS kW[n]? ++ cA cS (kW.drop (n+1)):=OG (f:=cS) (l:=kW)
theorem DX (n:Nat):yE (nK n):=λa0 r h q m vs P0 ⟨hv,hmP0,_⟩=>SC.wva hv (SC.ac hmP0 λ_ _ _=>cZ func122 call122 ntmps122 results122 rfl (wk (.l [.v 15 Int λy=>.li y,.b 0 aE λy=>(aE.C y),.b 2 aD λy=>[.li y.bS,.li y.fG,.ls y.cY,.lw y.oR,.list .self (y.aO.map aD.C)],.b 3 aD λy=>[.li y.bS,.li y.fG,.ls y.cY,.lw y.oR,.list .self (y.aO.map aD.C)]] [0,2,3,14] [] [] none .z .z) q m (nK.eq_1 _ _) h))
instance:nB 122 (∀n,yE (nK n)):=⟨DX⟩
def uH (f:aE->Option ((List aD) × aE)):Prop:=∀a0 r,f a0=some r->∀(q:Pa) (m:M) (vs:List V) (P0:Pa),vs.map V.weak1=[.ptr P0 0,.fn (.func 122) [.ptr P0 0] []]/\m.blk P0=some ((aE.C a0))/\m.gl 4=.eptr [(cA cS cD)] 0 0->SC prog 121 vs q m (λv Y=>∃(id:Pa) (j:Nat),q <:+ id/\v=.list (.st (.anon id j)) (r.1.map aD.C)/\Y=(m.set P0 ((aE.C r.2))).tokset id j true)
theorem AA (n:Nat):uH (fP n):=λa0 r h q m vs P0 ⟨hv,hmP0,_⟩=>SC.wva hv (SC.ac hmP0 λ_ _ _=>SC_vo func121 call121 ntmps121 results121 0 rfl λ_=>wk (.c .z (.j 1 0 8 [.o 5 (List aD) λy=>(y.map aD.C),.b 0 aE λy=>(aE.C y)] [0,1] [] [] none (.s 5 (.l [.o 5 (List aD) λy=>(y.map aD.C),.b 0 aE λy=>(aE.C y)] [0,1] [] [] none .z .z)) .z)) q m (fP.eq_1 _ _) h)
def zP (f:aE->Int->Option aE):Prop:=∀a0 a1 r,f a0 a1=some r->∀(q:Pa) (m:M) (vs:List V) (P0:Pa),vs.map V.weak1=[.ptr P0 0,.li a1]/\m.blk P0=some ((aE.C a0))->SC prog 157 vs q m (λv Y=>v=.tup []/\Y=(m.set P0 ((aE.C r))))
theorem EW:zP (mI):=λa0 a1 r h q m vs P0 ⟨hv,hmP0⟩=>SC.wva hv (SC.ac hmP0 λ_ _ _=>cZ func157 call157 ntmps157 results157 rfl (wk .z q m (mI.eq_1 _ _) h))
instance:nB 157 (zP mI):=⟨EW⟩
def zK (f:aE->Int->Option cF):Prop:=∀a0 a1 r,f a0 a1=some r->∀(q:Pa) (m:M) (vs:List V) (P0:Pa),vs.map V.weak1=[.ptr P0 0,.li a1]/\m.blk P0=some ((aE.C a0))/\m.gl 4=.eptr [(cA cS cD)] 0 0/\m.gl 6=.eptr [(cA (cA cS) cU)] 0 0->SC prog 208 vs q m (λv Y=>v=.ls r/\Y=m)
theorem EQ (n:Nat):zK (mH n):=by
 rintro a0 a1 r h q m vs P0 ⟨hv,hmP0,hg4,hg6⟩;refine SC.wv hv ?_;refine SC.apart hmP0 λhpP0=>?_
 try simp only [go_sem,seval] at hmP0
 refine tL func208 call208 ntmps208 results208 ?_;unfold mH at h;refine aL (aQ λ_ z=>?_);have K1:=qJ2 hg4 hg6;simp only [go_sem,seval,bT hpP0,hmP0,K1];apply z;simp only [aC,aA];refine aL (aL ?_);obtain ⟨x1,h5,h⟩:=aI h;obtain ⟨f2,f3,f4⟩:=bZ h5;have f6:a1<7:=f3;obtain ⟨w7,d8⟩:=QU (f:=(cA cS)) (s:=3) (Vu (f:=(cA cS)) (s:=3) _ (by kernel_rfl)) f4;have d9:=(Vu (f:=(cA cS)) (s:=3) _ (by kernel_rfl)) _ (DS f4);have d10:=List.take_left' (l₂:=w7) d9;have d11:(3<=(cA cS x1).length+w7.length)=True:=eq_true (by omega);refine aQ λ_ z=>?_;have K2:=qJ8 K1 f2 f3 f4 f6 d10 d11 d8;simp only [go_sem,seval,bT hpP0,hmP0,K2];apply z;simp only [aC,aA];refine dS ?_;obtain ⟨y14,j14,h⟩:=aI h;refine xP (λc X Y=>∃v13,lU n x1 a0 c v13=some y14/\X 0=.ptr P0 0/\X 9=.agg ((cA cS x1))/\X 10=.li v13/\Y.blk P0=some ((aE.C a0))/\Y.gl=m.gl/\m.back q Y=m) n ⟨0,j14,?_⟩ ?_
 ·simp only [go_sem,seval,aX,aV,aP,aZ,bE hpP0,bT hpP0,hmP0,K2]
 rintro i12 c15 E16 m17 ⟨v13,j14,e18⟩ _
 rcases c15 with _ | c15
 ·cases j14
 rw [lU] at j14;refine aL (aQ λ_ z=>?_);simp only [go_sem,seval,bT hpP0,e18,K2];apply z;simp only [aC,aA];refine aL (fD j14 (λc19 j14=>?_) (λc19 j14=>?_))
 ·refine cO ?_
  try simp only [aC,aA]
  refine aL (dS (aL ?_));obtain ⟨x20,h24,j14⟩:=aI j14;obtain ⟨f21,f22,f23⟩:=bZ h24;have f25:=(vL.1 f23).1;have f26:v13<3:=by have:=cA_one d9;omega
  obtain ⟨w27,d28⟩:=QU (f:=cS) (s:=1) (λ_ _=>rfl) f23;simp only [go_sem,seval] at d28;refine aQ λ_ z=>?_;have K3:=qJ8 K2 c19 f21 f22 f23 f26 d28 e18;simp only [go_sem,seval,bT hpP0,K3];apply z;simp only [aC,aA];refine aL ?_;obtain ⟨y29,j29,j14⟩:=aI j14;refine zB 10 (λX Y=>X 0=.ptr P0 0/\X 6=.ls x20/\X 9=.agg ((cA cS x1))/\X 10=.li v13/\X 19=.lb y29/\Y.blk P0=some ((aE.C a0))/\Y.gl=m.gl/\m.back q Y=m) ?_ ?_
  ·rcases yO j29 with ⟨c30,j29⟩ | ⟨c30,j29⟩
   ·obtain ⟨x31,h32,j29⟩:=aI j29;refine aQ λ_ z=>?_;simp only [go_sem,seval,bT hpP0,c30,K3];refine SC.by_ (AB n a0 x20 _ h32 _ _ _ P0 (by simp only [go_sem,seval,bT hpP0,c30,K3])) ?_;simp only [go_sem,seval,bT hpP0,c30,K3];apply z;simp only [aC,aA];cases j29;refine ⟨by decide,?_⟩;simp only [go_sem,seval,aX,aV,aP,aZ,bE hpP0,bT hpP0,c30,K3]
   ·refine aQ λ_ z=>?_;simp only [go_sem,seval,bT hpP0,c30,K3];apply z;simp only [aC,aA];cases j29;refine ⟨by decide,?_⟩;simp only [go_sem,seval,aX,aV,aP,aZ,bE hpP0,bT hpP0,c30,K3]
  ·intro E33 m34 e35 _;simp only [aC,aA];refine fD j14 (λc36 j14=>?_) (λc36 j14=>?_)
   ·refine aL (aQ λ_ z=>?_);have K4:=qJ9 K2 c19 f21 f22 f23 f26 d28 c36 e35;simp only [go_sem,seval,bT hpP0,K4];apply z;simp only [aC,aA];refine cV ?_
    try simp only [aU,aR]
    cases j14;simp only [xes,xen] at h;cases h;refine ⟨by simp,?_⟩;simp only [go_sem,seval,aX,aV,aP,aZ,bE hpP0,bT hpP0,K4]
   ·refine cO ?_
    try simp only [aC,aA]
    refine aQ λ_ z=>?_;have K5:=qJ9 K2 c19 f21 f22 f23 f26 d28 c36 e35;simp only [go_sem,seval,bT hpP0,K5];apply z;simp only [aC,aA];refine ⟨c15,No _,(i64.wrap (v13+1)),j14,?_⟩;simp only [go_sem,seval,aX,aV,aP,aZ,bE hpP0,bT hpP0,K5]
 ·refine lZ ?_
  try simp only [seval,bD,aY,aC,aA]
  cases j14;simp only [xes,xen] at h;refine aL (aQ λ_ z=>?_);simp only [go_sem,seval,bT hpP0,c19,e18,K2];apply z;simp only [aC,aA];refine cV ?_
  try simp only [aU,aR]
  cases h;refine ⟨by simp,?_⟩;simp only [go_sem,seval,aX,aV,aP,aZ,bE hpP0,bT hpP0,c19,e18,K2]
instance:nB 208 (∀n,zK (mH n)):=⟨EQ⟩
def kT (f:aE->Int->Option ((List aD) × aE)):Prop:=∀a0 a1 r,f a0 a1=some r->∀(q:Pa) (m:M) (vs:List V) (P0:Pa) (P1:Pa) (P2:Pa),vs.map V.weak1=[.ptr P0 0,.fn (.func 215) [] [.ptr P1 0,.ptr P2 0]]/\m.blk P0=some ((aE.C a0))/\m.blk P1=some ([.ptr P0 0])/\m.blk P2=some ([.li a1])/\(P0=P1)=False/\(P0=P2)=False/\(P1=P0)=False/\(P1=P2)=False/\(P2=P0)=False/\(P2=P1)=False/\m.gl 4=.eptr [(cA cS cD)] 0 0/\m.gl 6=.eptr [(cA (cA cS) cU)] 0 0->SC prog 121 vs q m (λv Y=>v=.list .none (r.1.map aD.C)/\Y=(m.set P0 ((aE.C r.2))))
def iS (f:aE->Int->Option (aD × aE)):Prop:=∀a0 a1 r,f a0 a1=some r->∀(q:Pa) (m:M) (vs:List V) (P0:Pa),vs.map V.weak1=[.ptr P0 0,.li a1]/\m.blk P0=some ((aE.C a0))/\m.gl 4=.eptr [(cA cS cD)] 0 0/\m.gl 6=.eptr [(cA (cA cS) cU)] 0 0->SC prog 179 vs q m (λv Y=>v=.agg ((aD.C r.1))/\Y=(m.set P0 ((aE.C r.2))))
def lV (f:aE->Int->Int->Option (aD × aE)):Prop:=∀a0 a1 a2 r,f a0 a1 a2=some r->∀(q:Pa) (m:M) (vs:List V) (P0:Pa),vs.map V.weak1=[.ptr P0 0,.li a1,.li a2]/\m.blk P0=some ((aE.C a0))/\m.gl 4=.eptr [(cA cS cD)] 0 0/\m.gl 6=.eptr [(cA (cA cS) cU)] 0 0->SC prog 200 vs q m (λv Y=>v=.agg ((aD.C r.1))/\Y=(m.set P0 ((aE.C r.2))))
def kK (f:aE->Int->Option (aD × aE)):Prop:=∀a0 a1 r,f a0 a1=some r->∀(q:Pa) (m:M) (vs:List V) (P0:Pa),vs.map V.weak1=[.ptr P0 0,.li a1]/\m.blk P0=some ((aE.C a0))/\m.gl 4=.eptr [(cA cS cD)] 0 0/\m.gl 6=.eptr [(cA (cA cS) cU)] 0 0->SC prog 207 vs q m (λv Y=>v=.agg ((aD.C r.1))/\Y=(m.set P0 ((aE.C r.2))))
def rO (f:aE->Int->Option (aD × aE)):Prop:=∀a0 a1 r,f a0 a1=some r->∀(q:Pa) (m:M) (vs:List V) (P0:Pa) (P1:Pa) (P2:Pa),vs.map V.weak1=[.ptr P1 0,.ptr P2 0]/\m.blk P0=some ((aE.C a0))/\m.blk P1=some ([.ptr P0 0])/\m.blk P2=some ([.li a1])/\(P0=P1)=False/\(P0=P2)=False/\(P1=P0)=False/\(P1=P2)=False/\(P2=P0)=False/\(P2=P1)=False/\m.gl 4=.eptr [(cA cS cD)] 0 0/\m.gl 6=.eptr [(cA (cA cS) cU)] 0 0->SC prog 215 vs q m (λv Y=>v=.agg ((aD.C r.1))/\Y=(m.set P0 ((aE.C r.2))))
theorem vY {eX} (AH:rO eX) (n:Nat):kT (iI eX n):=by
 rintro a0 a1 r h q m vs P0 P1 P2 ⟨hv,hmP0,hmP1,hmP2,hn0_1,hn0_2,hn1_0,hn1_2,hn2_0,hn2_1,hg4,hg6⟩;refine SC.wv hv ?_;refine SC.apart hmP0 λhpP0=>?_;refine SC.apart hmP1 λhpP1=>?_;refine SC.apart hmP2 λhpP2=>?_;have l0:=HS hmP0
 try simp only [go_sem,seval] at hmP0 l0
 skip
 try simp only [go_sem,seval] at hmP2
 refine tL func121 call121 ntmps121 results121 ?_;unfold iI at h;refine aL (aQ λ_ z=>?_);have K1:=qJ2 hg4 hg6;simp only [go_sem,seval,bT hpP0,bT hpP1,bT hpP2,hn0_1,hn0_2,hn1_0,hn1_2,hn2_0,hn2_1,hmP0,hmP1,hmP2,K1];apply z;simp only [aC,aA];refine aL (aQ λ_ z=>?_);simp only [go_sem,seval,bT hpP0,bT hpP1,bT hpP2,hn0_1,hn0_2,hn1_0,hn1_2,hn2_0,hn2_1,hmP0,hmP1,hmP2,K1];apply z;simp only [aC,aA];refine aL ?_;obtain ⟨x1,h2,h⟩:=aI h;refine aQ λ_ z=>?_;simp only [go_sem,seval,bT hpP0,bT hpP1,bT hpP2,hn0_1,hn0_2,hn1_0,hn1_2,hn2_0,hn2_1,hmP0,hmP1,hmP2,K1];refine SC.by_ (oF n a0 ([40]:cF) _ h2 _ _ _ P0 (by simp only [go_sem,seval,bT hpP0,bT hpP1,bT hpP2,hn0_1,hn0_2,hn1_0,hn1_2,hn2_0,hn2_1,hmP0,hmP1,hmP2,K1])) ?_;simp only [go_sem,seval,bT hpP0,bT hpP1,bT hpP2,hn0_1,hn0_2,hn1_0,hn1_2,hn2_0,hn2_1,hmP0,hmP1,hmP2,K1];apply z;simp only [aC,aA];refine aL (aL ?_);obtain ⟨x3,h4,h⟩:=aI h;refine aQ λ_ z=>?_;simp only [go_sem,seval,bT hpP0,bT hpP1,bT hpP2,hn0_1,hn0_2,hn1_0,hn1_2,hn2_0,hn2_1,hmP0,hmP1,hmP2,K1];refine SC.by_ (oC n x1 ([41]:cF) _ h4 _ _ _ P0 (by simp only [go_sem,seval,bT hpP0,bT hpP1,bT hpP2,hn0_1,hn0_2,hn1_0,hn1_2,hn2_0,hn2_1,hmP0,hmP1,hmP2,K1])) ?_;simp only [go_sem,seval,bT hpP0,bT hpP1,bT hpP2,hn0_1,hn0_2,hn1_0,hn1_2,hn2_0,hn2_1,hmP0,hmP1,hmP2,K1];apply z;simp only [aC,aA];refine fD h (λc5 h=>?_) (λc5 h=>?_)
 ·refine aL (aQ λ_ z=>?_);simp only [go_sem,seval,bT hpP0,bT hpP1,bT hpP2,hn0_1,hn0_2,hn1_0,hn1_2,hn2_0,hn2_1,c5,hmP0,hmP1,hmP2,K1];apply z;simp only [aC,aA];refine cV ?_
  try simp only [aU,aR]
  cases h;refine ⟨by simp,?_⟩;simp only [go_sem,seval,aX,aV,aP,aZ,bE hpP0,bE hpP1,bE hpP2,l0,bT hpP0,bT hpP1,bT hpP2,hn0_1,hn0_2,hn1_0,hn1_2,hn2_0,hn2_1,c5,hmP0,hmP1,hmP2,K1]
 ·refine cO ?_
  try simp only [aC,aA]
  refine aL ?_;obtain ⟨y6,j6,h⟩:=aI h;refine zB 8 (λX Y=>∃(oy6_5:Pa) (jy6_5:Nat),X 0=.ptr P0 0/\X 5=.list (.st (.anon oy6_5 jy6_5)) (y6.1.map aD.C)/\Y.tok oy6_5 jy6_5=true/\q <:+ oy6_5/\Y.blk P0=some ((aE.C y6.2))/\Y.blk P1=some ([.ptr P0 0])/\Y.blk P2=some ([.li a1])/\Y.gl=m.gl/\m.back q Y=(m.set P0 ((aE.C y6.2)))) ?_ ?_
  ·refine dS ?_;obtain ⟨y10,j10,j6⟩:=aI j6;refine Cp 5 ([].map aD.C) rfl (by simp only [go_sem,seval,bT hpP0,bT hpP1,bT hpP2,hn0_1,hn0_2,hn1_0,hn1_2,hn2_0,hn2_1,c5,hmP0,hmP1,hmP2,K1]) ?_;refine xP (λc X Y=>∃v8 v9 o_v8 j_v8,fO eX n a1 c v8 v9=some y10/\X 0=.ptr P0 0/\X 1=.fn (.func 215) [] [.ptr P1 0,.ptr P2 0]/\X 5=.list (.st (.anon o_v8 j_v8)) (v8.map aD.C)/\Y.tok o_v8 j_v8=true/\q <:+ o_v8/\Y.blk P0=some ((aE.C v9))/\Y.blk P1=some ([.ptr P0 0])/\Y.blk P2=some ([.li a1])/\Y.gl=m.gl/\m.back q Y=(m.set P0 ((aE.C v9)))) n ⟨[],x3.2,(6::q),0,j10,?_⟩ ?_
   ·simp only [go_sem,seval,aX,aV,aP,aZ,bE hpP0,bE hpP1,bE hpP2,l0,bT hpP0,bT hpP1,bT hpP2,hn0_1,hn0_2,hn1_0,hn1_2,hn2_0,hn2_1,c5,hmP0,hmP1,hmP2,K1]
   rintro i7 c11 E12 m13 ⟨v8,v9,o_v8,j_v8,j10,e14⟩ _
   rcases c11 with _ | c11
   ·cases j10
   rw [fO] at j10;refine aL (aL (aQ λ_ z=>?_));have K2:=qJ3 K1 c5 e14;simp only [go_sem,seval,bT hpP0,bT hpP1,bT hpP2,hn0_1,hn0_2,hn1_0,hn1_2,hn2_0,hn2_1,K2];apply z;simp only [aC,aA];refine fD j10 (λc15 j10=>?_) (λc15 j10=>?_)
   ·refine cO ?_
    try simp only [aC,aA]
    refine dS (aL ?_);obtain ⟨x16,h17,j10⟩:=aI j10;obtain ⟨f18,j10⟩:=cH j10;have f19:v8.length+1<=1073741824:=by first | omega | (simp only [mA,dY,eP] at f18 ⊢;omega)
    have f20:v8.length<=1073741823:=by first | omega | (simp only [mA,dY,eP] at f18 ⊢;omega)
    refine aQ λ_ z=>?_;have K3:=qJ5 K2 c15 f18 f19 f20;simp only [go_sem,seval,bT hpP0,bT hpP1,bT hpP2,hn0_1,hn0_2,hn1_0,hn1_2,hn2_0,hn2_1,K3];refine SC.by_ (AH v9 a1 _ h17 _ _ _ P0 P1 P2 (by simp only [go_sem,seval,bT hpP0,bT hpP1,bT hpP2,hn0_1,hn0_2,hn1_0,hn1_2,hn2_0,hn2_1,K3])) ?_;simp only [go_sem,seval,bT hpP0,bT hpP1,bT hpP2,hn0_1,hn0_2,hn1_0,hn1_2,hn2_0,hn2_1,K3];apply z;simp only [aC,aA];refine aL ?_;obtain ⟨x21,h22,j10⟩:=aI j10;refine aQ λ_ z=>?_;simp only [go_sem,seval,bT hpP0,bT hpP1,bT hpP2,hn0_1,hn0_2,hn1_0,hn1_2,hn2_0,hn2_1,K3];refine SC.by_ (oC n x16.2 ([44]:cF) _ h22 _ _ _ P0 (by simp only [go_sem,seval,bT hpP0,bT hpP1,bT hpP2,hn0_1,hn0_2,hn1_0,hn1_2,hn2_0,hn2_1,K3])) ?_;simp only [go_sem,seval,bT hpP0,bT hpP1,bT hpP2,hn0_1,hn0_2,hn1_0,hn1_2,hn2_0,hn2_1,K3];apply z;simp only [aC,aA];refine fD j10 (λc23 j10=>?_) (λc23 j10=>?_)
    ·refine lZ ?_
     try simp only [seval,bD,aY,aC,aA]
     cases j10;cases j6;refine ⟨by decide,(9::i7::7::q),0,?_⟩;simp only [go_sem,seval,aX,aV,aP,aZ,bE hpP0,bE hpP1,bE hpP2,l0,bT hpP0,bT hpP1,bT hpP2,hn0_1,hn0_2,hn1_0,hn1_2,hn2_0,hn2_1,c23,K3]
    ·refine cO ?_
     try simp only [aC,aA]
     refine ⟨c11,No _,(v8++[x16.1]),x21.2,(9::i7::7::q),0,j10,?_⟩;simp only [go_sem,seval,aX,aV,aP,aZ,bE hpP0,bE hpP1,bE hpP2,l0,bT hpP0,bT hpP1,bT hpP2,hn0_1,hn0_2,hn1_0,hn1_2,hn2_0,hn2_1,c23,K3]
   ·refine lZ ?_
    try simp only [seval,bD,aY,aC,aA]
    cases j10;cases j6;refine ⟨by decide,o_v8,j_v8,?_⟩;simp only [go_sem,seval,aX,aV,aP,aZ,bE hpP0,bE hpP1,bE hpP2,l0,bT hpP0,bT hpP1,bT hpP2,hn0_1,hn0_2,hn1_0,hn1_2,hn2_0,hn2_1,c15,K2]
  ·rintro E24 m25 ⟨oy6_5,jy6_5,e26⟩ _;simp only [aC,aA];refine aL ?_;obtain ⟨x27,h28,h⟩:=aI h;refine aQ λ_ z=>?_;have K4:=qJ3 K1 c5 e26;simp only [go_sem,seval,bT hpP0,bT hpP1,bT hpP2,hn0_1,hn0_2,hn1_0,hn1_2,hn2_0,hn2_1,K4];refine SC.by_ (oF n y6.2 ([41]:cF) _ h28 _ _ _ P0 (by simp only [go_sem,seval,bT hpP0,bT hpP1,bT hpP2,hn0_1,hn0_2,hn1_0,hn1_2,hn2_0,hn2_1,K4])) ?_;simp only [go_sem,seval,bT hpP0,bT hpP1,bT hpP2,hn0_1,hn0_2,hn1_0,hn1_2,hn2_0,hn2_1,K4];apply z;simp only [aC,aA];refine aL (aQ λ_ z=>?_);simp only [go_sem,seval,bT hpP0,bT hpP1,bT hpP2,hn0_1,hn0_2,hn1_0,hn1_2,hn2_0,hn2_1,K4];apply z;simp only [aC,aA];refine cV ?_
   try simp only [aU,aR]
   cases h;refine ⟨by simp,?_⟩;simp only [go_sem,seval,aX,aV,aP,aZ,bE hpP0,bE hpP1,bE hpP2,l0,bT hpP0,bT hpP1,bT hpP2,hn0_1,hn0_2,hn1_0,hn1_2,hn2_0,hn2_1,K4]
theorem Dw {cQ} (sC:lV cQ) (n:Nat):iS (pE cQ n):=haveI:nB 200 (lV cQ):=⟨sC⟩;λa0 a1 r h q m vs P0 ⟨hv,hmP0,_,_⟩=>SC.wva hv (SC.ac hmP0 λ_ _ _=>cZ func179 call179 ntmps179 results179 rfl (wk .z q m (pE.eq_1 _ _ _ _) h))
theorem Cu {cP} (rE:kK cP) {cQ} (sC:lV cQ) (n:Nat):lV (oG cP cQ n):=haveI:nB 207 (kK cP):=⟨rE⟩;haveI:nB 200 (lV cQ):=⟨sC⟩;λa0 a1 a2 r h q m vs P0 ⟨hv,hmP0,_,_⟩=>SC.wva hv (SC.ac hmP0 λ_ _ _=>cZ func200 call200 ntmps200 results200 rfl (wk (.c .z (.l [.v 8 cF λy=>.ls y,.b 0 aE λy=>(aE.C y),.b 7 aD λy=>(aD.C y)] [0,1,2,6,7] [6] [] none .z .z)) q m (oG.eq_1 _ _ _ _ _ _) h))
instance:ST iC 2:=⟨by decide⟩
@[go_sem low] theorem JL {n:Nat}:List.drop n [V.lit (.string (bs ([126]:cF))),V.lit (.string (bs ([45]:cF)))]=Oc cS iC[n]? ++ cA cS (iC.drop (n+1)):=OG (f:=cS) (l:=iC)
theorem Bm {dT} (sV:iS dT) {cP} (rE:kK cP) {gP} (wG:kT gP) (n:Nat):kK (mS dT cP gP n):=haveI:nB 179 (iS dT):=⟨sV⟩;haveI:nB 207 (kK cP):=⟨rE⟩;haveI:nB 121 (kT gP):=⟨wG⟩;λa0 a1 r h q m vs P0 ⟨hv,hmP0,_,_⟩=>SC.wva hv (SC.ac hmP0 λ_ _ _=>cZ func207 call207 ntmps207 results207 rfl (wk (.c .z (.l [.v 24 Int λy=>.li y,.b 0 aE λy=>(aE.C y),.b 6 aD λy=>[.li y.bS,.li y.fG,.ls y.cY,.lw y.oR,.list .self (y.aO.map aD.C)],.b 4 aD λy=>[.li y.bS,.li y.fG,.ls y.cY,.lw y.oR,.list .self (y.aO.map aD.C)]] [0,2,3,4,6,23] [2,3] [] none .z (.j 2 14 26 [.v 51 Bool λy=>.lb y] [0,2,3,4,6] [0,6,2,3,4] [] none .z (.c .z (.j 1 2 47 [.b 0 aE λy=>(aE.C y),.b 6 aD λy=>(aD.C y)] [0,4,6] [4] [(6,4)] none .z .z))))) q m (mS.eq_1 _ _ _ _ _ _) h))
theorem Az {dT} (sV:iS dT) (n:Nat):rO (lH dT n):=haveI:nB 179 (iS dT):=⟨sV⟩;λa0 a1 r h q m vs P0 P1 P2 ⟨hv,hmP0,hmP1,hmP2,_,_,_,_,_,_,_,_⟩=>SC.wva hv (SC.ac hmP0 λ_ _ _=>SC.ac hmP1 λ_ _ _=>SC.ac hmP2 λ_ _ _=>cZ func215 call215 ntmps215 results215 rfl (wk .z q m (lH.eq_1 _ _ _ _) h))
theorem qF:∀n,kT (Ab n)/\iS (eU n)/\lV (FW n)/\kK (ER n)/\rO (Dt n)
 | 0=>⟨λ_ _ _ h=>dF h,λ_ _ _ h=>dF h,λ_ _ _ _ h=>dF h,λ_ _ _ h=>dF h,λ_ _ _ h=>dF h⟩
 | n+1=>
   have ih:=qF n
   ⟨vY ih.2.2.2.2 n,Dw ih.2.2.1 n,Cu ih.2.2.2.1 ih.2.2.1 n,Bm ih.2.1 ih.2.2.2.1 ih.1 n,Az ih.2.1 n⟩
theorem EV (n:Nat):iS (eU n):=(qF n).2.1
instance:nB 179 (∀n,iS (eU n)):=⟨EV⟩
def yF (f:aE->aD->Int->Option (aD × aE)):Prop:=∀a0 a1 a2 r,f a0 a1 a2=some r->∀(q:Pa) (m:M) (vs:List V) (P0:Pa),vs.map V.weak1=[.ptr P0 0,.agg ((aD.C a1)),.li a2]/\m.blk P0=some ((aE.C a0))/\m.gl 4=.eptr [(cA cS cD)] 0 0/\m.gl 6=.eptr [(cA (cA cS) cU)] 0 0->SC prog 178 vs q m (λv Y=>v=.agg ((aD.C r.1))/\Y=(m.set P0 ((aE.C r.2))))
theorem DY (n:Nat):yF (lI n):=λa0 a1 a2 r h q m vs P0 ⟨hv,hmP0,_,_⟩=>SC.wva hv (SC.ac hmP0 λ_ _ _=>cZ func178 call178 ntmps178 results178 rfl (wk .z q m (lI.eq_1 _ _ _ _) h))
instance:nB 178 (∀n,yF (lI n)):=⟨DY⟩
def Ds (f:aE->Int->Option (aD × aE)):Prop:=∀a0 a1 r,f a0 a1=some r->∀(q:Pa) (m:M) (vs:List V) (P0:Pa) (P1:Pa) (P2:Pa),vs.map V.weak1=[.ptr P1 0,.ptr P2 0]/\m.blk P0=some ((aE.C a0))/\m.blk P1=some ([.ptr P0 0])/\m.blk P2=some ([.li a1])/\(P0=P1)=False/\(P0=P2)=False/\(P1=P0)=False/\(P1=P2)=False/\(P2=P0)=False/\(P2=P1)=False/\m.gl 4=.eptr [(cA cS cD)] 0 0/\m.gl 6=.eptr [(cA (cA cS) cU)] 0 0->SC prog 201 vs q m (λv Y=>v=.agg ((aD.C r.1))/\Y=(m.set P0 ((aE.C r.2))))
theorem Ct (n:Nat):Ds (oE n):=λa0 a1 r h q m vs P0 P1 P2 ⟨hv,hmP0,hmP1,hmP2,_,_,_,_,_,_,_,_⟩=>SC.wva hv (SC.ac hmP0 λ_ _ _=>SC.ac hmP1 λ_ _ _=>SC.ac hmP2 λ_ _ _=>cZ func201 call201 ntmps201 results201 rfl (wk .z q m (oE.eq_1 _ _ _) h))
def tE (f:aE->Int->Option ((List aD) × aE)):Prop:=∀a0 a1 r,f a0 a1=some r->∀(q:Pa) (m:M) (vs:List V) (P0:Pa) (P1:Pa) (P2:Pa),vs.map V.weak1=[.ptr P0 0,.fn (.func 201) [] [.ptr P1 0,.ptr P2 0]]/\m.blk P0=some ((aE.C a0))/\m.blk P1=some ([.ptr P0 0])/\m.blk P2=some ([.li a1])/\(P0=P1)=False/\(P0=P2)=False/\(P1=P0)=False/\(P1=P2)=False/\(P2=P0)=False/\(P2=P1)=False/\m.gl 4=.eptr [(cA cS cD)] 0 0/\m.gl 6=.eptr [(cA (cA cS) cU)] 0 0->SC prog 121 vs q m (λv Y=>v=.list .none (r.1.map aD.C)/\Y=(m.set P0 ((aE.C r.2))))
theorem zF (n:Nat):tE (iF n):=by
 rintro a0 a1 r h q m vs P0 P1 P2 ⟨hv,hmP0,hmP1,hmP2,hn0_1,hn0_2,hn1_0,hn1_2,hn2_0,hn2_1,hg4,hg6⟩;refine SC.wv hv ?_;refine SC.apart hmP0 λhpP0=>?_;refine SC.apart hmP1 λhpP1=>?_;refine SC.apart hmP2 λhpP2=>?_;have l0:=HS hmP0
 try simp only [go_sem,seval] at hmP0 l0
 skip
 try simp only [go_sem,seval] at hmP2
 refine tL func121 call121 ntmps121 results121 ?_;unfold iF at h;refine aL (aQ λ_ z=>?_);have K1:=qJ2 hg4 hg6;simp only [go_sem,seval,bT hpP0,bT hpP1,bT hpP2,hn0_1,hn0_2,hn1_0,hn1_2,hn2_0,hn2_1,hmP0,hmP1,hmP2,K1];apply z;simp only [aC,aA];refine aL (aQ λ_ z=>?_);simp only [go_sem,seval,bT hpP0,bT hpP1,bT hpP2,hn0_1,hn0_2,hn1_0,hn1_2,hn2_0,hn2_1,hmP0,hmP1,hmP2,K1];apply z;simp only [aC,aA];refine aL ?_;obtain ⟨x1,h2,h⟩:=aI h;refine aQ λ_ z=>?_;simp only [go_sem,seval,bT hpP0,bT hpP1,bT hpP2,hn0_1,hn0_2,hn1_0,hn1_2,hn2_0,hn2_1,hmP0,hmP1,hmP2,K1];refine SC.by_ (oF n a0 ([40]:cF) _ h2 _ _ _ P0 (by simp only [go_sem,seval,bT hpP0,bT hpP1,bT hpP2,hn0_1,hn0_2,hn1_0,hn1_2,hn2_0,hn2_1,hmP0,hmP1,hmP2,K1])) ?_;simp only [go_sem,seval,bT hpP0,bT hpP1,bT hpP2,hn0_1,hn0_2,hn1_0,hn1_2,hn2_0,hn2_1,hmP0,hmP1,hmP2,K1];apply z;simp only [aC,aA];refine aL (aL ?_);obtain ⟨x3,h4,h⟩:=aI h;refine aQ λ_ z=>?_;simp only [go_sem,seval,bT hpP0,bT hpP1,bT hpP2,hn0_1,hn0_2,hn1_0,hn1_2,hn2_0,hn2_1,hmP0,hmP1,hmP2,K1];refine SC.by_ (oC n x1 ([41]:cF) _ h4 _ _ _ P0 (by simp only [go_sem,seval,bT hpP0,bT hpP1,bT hpP2,hn0_1,hn0_2,hn1_0,hn1_2,hn2_0,hn2_1,hmP0,hmP1,hmP2,K1])) ?_;simp only [go_sem,seval,bT hpP0,bT hpP1,bT hpP2,hn0_1,hn0_2,hn1_0,hn1_2,hn2_0,hn2_1,hmP0,hmP1,hmP2,K1];apply z;simp only [aC,aA];refine fD h (λc5 h=>?_) (λc5 h=>?_)
 ·refine aL (aQ λ_ z=>?_);simp only [go_sem,seval,bT hpP0,bT hpP1,bT hpP2,hn0_1,hn0_2,hn1_0,hn1_2,hn2_0,hn2_1,c5,hmP0,hmP1,hmP2,K1];apply z;simp only [aC,aA];refine cV ?_
  try simp only [aU,aR]
  cases h;refine ⟨by simp,?_⟩;simp only [go_sem,seval,aX,aV,aP,aZ,bE hpP0,bE hpP1,bE hpP2,l0,bT hpP0,bT hpP1,bT hpP2,hn0_1,hn0_2,hn1_0,hn1_2,hn2_0,hn2_1,c5,hmP0,hmP1,hmP2,K1]
 ·refine cO ?_
  try simp only [aC,aA]
  refine aL ?_;obtain ⟨y6,j6,h⟩:=aI h;refine zB 8 (λX Y=>∃(oy6_5:Pa) (jy6_5:Nat),X 0=.ptr P0 0/\X 5=.list (.st (.anon oy6_5 jy6_5)) (y6.1.map aD.C)/\Y.tok oy6_5 jy6_5=true/\q <:+ oy6_5/\Y.blk P0=some ((aE.C y6.2))/\Y.blk P1=some ([.ptr P0 0])/\Y.blk P2=some ([.li a1])/\Y.gl=m.gl/\m.back q Y=(m.set P0 ((aE.C y6.2)))) ?_ ?_
  ·refine dS ?_;obtain ⟨y10,j10,j6⟩:=aI j6;refine Cp 5 ([].map aD.C) rfl (by simp only [go_sem,seval,bT hpP0,bT hpP1,bT hpP2,hn0_1,hn0_2,hn1_0,hn1_2,hn2_0,hn2_1,c5,hmP0,hmP1,hmP2,K1]) ?_;refine xP (λc X Y=>∃v8 v9 o_v8 j_v8,gC n a1 c v8 v9=some y10/\X 0=.ptr P0 0/\X 1=.fn (.func 201) [] [.ptr P1 0,.ptr P2 0]/\X 5=.list (.st (.anon o_v8 j_v8)) (v8.map aD.C)/\Y.tok o_v8 j_v8=true/\q <:+ o_v8/\Y.blk P0=some ((aE.C v9))/\Y.blk P1=some ([.ptr P0 0])/\Y.blk P2=some ([.li a1])/\Y.gl=m.gl/\m.back q Y=(m.set P0 ((aE.C v9)))) n ⟨[],x3.2,(6::q),0,j10,?_⟩ ?_
   ·simp only [go_sem,seval,aX,aV,aP,aZ,bE hpP0,bE hpP1,bE hpP2,l0,bT hpP0,bT hpP1,bT hpP2,hn0_1,hn0_2,hn1_0,hn1_2,hn2_0,hn2_1,c5,hmP0,hmP1,hmP2,K1]
   rintro i7 c11 E12 m13 ⟨v8,v9,o_v8,j_v8,j10,e14⟩ _
   rcases c11 with _ | c11
   ·cases j10
   rw [gC] at j10;refine aL (aL (aQ λ_ z=>?_));have K2:=qJ3 K1 c5 e14;simp only [go_sem,seval,bT hpP0,bT hpP1,bT hpP2,hn0_1,hn0_2,hn1_0,hn1_2,hn2_0,hn2_1,K2];apply z;simp only [aC,aA];refine fD j10 (λc15 j10=>?_) (λc15 j10=>?_)
   ·refine cO ?_
    try simp only [aC,aA]
    refine dS (aL ?_);obtain ⟨x16,h17,j10⟩:=aI j10;obtain ⟨f18,j10⟩:=cH j10;have f19:v8.length+1<=1073741824:=by first | omega | (simp only [mA,dY,eP] at f18 ⊢;omega)
    have f20:v8.length<=1073741823:=by first | omega | (simp only [mA,dY,eP] at f18 ⊢;omega)
    refine aQ λ_ z=>?_;have K3:=qJ5 K2 c15 f18 f19 f20;simp only [go_sem,seval,bT hpP0,bT hpP1,bT hpP2,hn0_1,hn0_2,hn1_0,hn1_2,hn2_0,hn2_1,K3];refine SC.by_ (Ct n v9 a1 _ h17 _ _ _ P0 P1 P2 (by simp only [go_sem,seval,bT hpP0,bT hpP1,bT hpP2,hn0_1,hn0_2,hn1_0,hn1_2,hn2_0,hn2_1,K3])) ?_;simp only [go_sem,seval,bT hpP0,bT hpP1,bT hpP2,hn0_1,hn0_2,hn1_0,hn1_2,hn2_0,hn2_1,K3];apply z;simp only [aC,aA];refine aL ?_;obtain ⟨x21,h22,j10⟩:=aI j10;refine aQ λ_ z=>?_;simp only [go_sem,seval,bT hpP0,bT hpP1,bT hpP2,hn0_1,hn0_2,hn1_0,hn1_2,hn2_0,hn2_1,K3];refine SC.by_ (oC n x16.2 ([44]:cF) _ h22 _ _ _ P0 (by simp only [go_sem,seval,bT hpP0,bT hpP1,bT hpP2,hn0_1,hn0_2,hn1_0,hn1_2,hn2_0,hn2_1,K3])) ?_;simp only [go_sem,seval,bT hpP0,bT hpP1,bT hpP2,hn0_1,hn0_2,hn1_0,hn1_2,hn2_0,hn2_1,K3];apply z;simp only [aC,aA];refine fD j10 (λc23 j10=>?_) (λc23 j10=>?_)
    ·refine lZ ?_
     try simp only [seval,bD,aY,aC,aA]
     cases j10;cases j6;refine ⟨by decide,(9::i7::7::q),0,?_⟩;simp only [go_sem,seval,aX,aV,aP,aZ,bE hpP0,bE hpP1,bE hpP2,l0,bT hpP0,bT hpP1,bT hpP2,hn0_1,hn0_2,hn1_0,hn1_2,hn2_0,hn2_1,c23,K3]
    ·refine cO ?_
     try simp only [aC,aA]
     refine ⟨c11,No _,(v8++[x16.1]),x21.2,(9::i7::7::q),0,j10,?_⟩;simp only [go_sem,seval,aX,aV,aP,aZ,bE hpP0,bE hpP1,bE hpP2,l0,bT hpP0,bT hpP1,bT hpP2,hn0_1,hn0_2,hn1_0,hn1_2,hn2_0,hn2_1,c23,K3]
   ·refine lZ ?_
    try simp only [seval,bD,aY,aC,aA]
    cases j10;cases j6;refine ⟨by decide,o_v8,j_v8,?_⟩;simp only [go_sem,seval,aX,aV,aP,aZ,bE hpP0,bE hpP1,bE hpP2,l0,bT hpP0,bT hpP1,bT hpP2,hn0_1,hn0_2,hn1_0,hn1_2,hn2_0,hn2_1,c15,K2]
  ·rintro E24 m25 ⟨oy6_5,jy6_5,e26⟩ _;simp only [aC,aA];refine aL ?_;obtain ⟨x27,h28,h⟩:=aI h;refine aQ λ_ z=>?_;have K4:=qJ3 K1 c5 e26;simp only [go_sem,seval,bT hpP0,bT hpP1,bT hpP2,hn0_1,hn0_2,hn1_0,hn1_2,hn2_0,hn2_1,K4];refine SC.by_ (oF n y6.2 ([41]:cF) _ h28 _ _ _ P0 (by simp only [go_sem,seval,bT hpP0,bT hpP1,bT hpP2,hn0_1,hn0_2,hn1_0,hn1_2,hn2_0,hn2_1,K4])) ?_;simp only [go_sem,seval,bT hpP0,bT hpP1,bT hpP2,hn0_1,hn0_2,hn1_0,hn1_2,hn2_0,hn2_1,K4];apply z;simp only [aC,aA];refine aL (aQ λ_ z=>?_);simp only [go_sem,seval,bT hpP0,bT hpP1,bT hpP2,hn0_1,hn0_2,hn1_0,hn1_2,hn2_0,hn2_1,K4];apply z;simp only [aC,aA];refine cV ?_
   try simp only [aU,aR]
   cases h;refine ⟨by simp,?_⟩;simp only [go_sem,seval,aX,aV,aP,aZ,bE hpP0,bE hpP1,bE hpP2,l0,bT hpP0,bT hpP1,bT hpP2,hn0_1,hn0_2,hn1_0,hn1_2,hn2_0,hn2_1,K4]
def yD (f:aE->aD->Int->Option (aD × aE)):Prop:=∀a0 a1 a2 r,f a0 a1 a2=some r->∀(q:Pa) (m:M) (vs:List V) (P0:Pa),vs.map V.weak1=[.ptr P0 0,.agg ((aD.C a1)),.li a2]/\m.blk P0=some ((aE.C a0))/\m.gl 4=.eptr [(cA cS cD)] 0 0/\m.gl 6=.eptr [(cA (cA cS) cU)] 0 0->SC prog 182 vs q m (λv Y=>v=.agg ((aD.C r.1))/\Y=(m.set P0 ((aE.C r.2))))
theorem DW (n:Nat):yD (nJ n):=λa0 a1 a2 r h q m vs P0 ⟨hv,hmP0,_,_⟩=>SC.wva hv (SC.ac hmP0 λ_ _ _=>haveI:nB 121 (∀n,tE (iF n)):=⟨zF⟩;cZ func182 call182 ntmps182 results182 rfl (wk (.j 1 0 37 [.b 0 aE λy=>(aE.C y),.b 4 aD λy=>(aD.C y)] [0,3,4,6] [3,6] [(4,4)] none .z .z) q m (nJ.eq_1 _ _ _ _) h))
instance:nB 182 (∀n,yD (nJ n)):=⟨DW⟩
def iJ (f:aE->Int->Option (aD × aE)):Prop:=∀a0 a1 r,f a0 a1=some r->∀(q:Pa) (m:M) (vs:List V) (P0:Pa),vs.map V.weak1=[.ptr P0 0,.li a1]/\m.blk P0=some ((aE.C a0))/\m.gl 4=.eptr [(cA cS cD)] 0 0/\m.gl 6=.eptr [(cA (cA cS) cU)] 0 0->SC prog 123 vs q m (λv Y=>v=.agg ((aD.C r.1))/\Y=(m.set P0 ((aE.C r.2))))
def oD (f:aE->Int->Option (aD × aE)):Prop:=∀a0 a1 r,f a0 a1=some r->∀(q:Pa) (m:M) (vs:List V) (P0:Pa),vs.map V.weak1=[.ptr P0 0,.li a1]/\m.blk P0=some ((aE.C a0))/\m.gl 4=.eptr [(cA cS cD)] 0 0/\m.gl 6=.eptr [(cA (cA cS) cU)] 0 0->SC prog 158 vs q m (λv Y=>v=.agg ((aD.C r.1))/\Y=(m.set P0 ((aE.C r.2))))
def qH (f:aE->aD->Int->Option (aD × aE)):Prop:=∀a0 a1 a2 r,f a0 a1 a2=some r->∀(q:Pa) (m:M) (vs:List V) (P0:Pa),vs.map V.weak1=[.ptr P0 0,.agg ((aD.C a1)),.li a2]/\m.blk P0=some ((aE.C a0))/\m.gl 4=.eptr [(cA cS cD)] 0 0/\m.gl 6=.eptr [(cA (cA cS) cU)] 0 0->SC prog 180 vs q m (λv Y=>v=.agg ((aD.C r.1))/\Y=(m.set P0 ((aE.C r.2))))
def rU (f:aE->aD->Int->Option (aD × aE)):Prop:=∀a0 a1 a2 r,f a0 a1 a2=some r->∀(q:Pa) (m:M) (vs:List V) (P0:Pa),vs.map V.weak1=[.ptr P0 0,.agg ((aD.C a1)),.li a2]/\m.blk P0=some ((aE.C a0))/\m.gl 4=.eptr [(cA cS cD)] 0 0/\m.gl 6=.eptr [(cA (cA cS) cU)] 0 0->SC prog 181 vs q m (λv Y=>v=.agg ((aD.C r.1))/\Y=(m.set P0 ((aE.C r.2))))
theorem Cv {eW} (AG:oD eW) (n:Nat):iJ (oH eW n):=haveI:nB 158 (oD eW):=⟨AG⟩;λa0 a1 r h q m vs P0 ⟨hv,hmP0,_,_⟩=>SC.wva hv (SC.ac hmP0 λ_ _ _=>cZ func123 call123 ntmps123 results123 rfl (wk (.l [.b 0 aE λy=>(aE.C y),.b 5 aD λy=>[.li y.bS,.li y.fG,.ls y.cY,.lw y.oR,.list .self (y.aO.map aD.C)]] [0,1,4,5] [4] [] none (.j 2 4 10 [.v 22 Bool λy=>.lb y] [0,1,4,5] [0,4,5] [] none .z .z) .z) q m (oH.eq_1 _ _ _ _) h))
theorem Ay {mC} (Cc:qH mC) {nI} (DN:rU nI) (n:Nat):oD (lG mC nI n):=haveI:nB 180 (qH mC):=⟨Cc⟩;haveI:nB 181 (rU nI):=⟨DN⟩;λa0 a1 r h q m vs P0 ⟨hv,hmP0,_,_⟩=>SC.wva hv (SC.ac hmP0 λ_ _ _=>cZ func158 call158 ntmps158 results158 rfl (wk (.j 11 0 26 [.b 0 aE λy=>(aE.C y),.b 5 aD λy=>[.li y.bS,.li y.fG,.ls y.cY,.lw y.oR,.list .self (y.aO.map aD.C)]] [0,4,5] [4] [] none .z .z) q m (lG.eq_1 _ _ _ _ _) h))
theorem BO {dO} (sD:iJ dO) (n:Nat):qH (nL dO n):=haveI:nB 123 (iJ dO):=⟨sD⟩;λa0 a1 a2 r h q m vs P0 ⟨hv,hmP0,_,_⟩=>SC.wva hv (SC.ac hmP0 λ_ _ _=>cZ func180 call180 ntmps180 results180 rfl (wk .z q m (nL.eq_1 _ _ _ _ _) h))
theorem Dv {dO} (sD:iJ dO) (n:Nat):rU (pD dO n):=haveI:nB 123 (iJ dO):=⟨sD⟩;λa0 a1 a2 r h q m vs P0 ⟨hv,hmP0,_,_⟩=>SC.wva hv (SC.ac hmP0 λ_ _ _=>cZ func181 call181 ntmps181 results181 rfl (wk .z q m (pD.eq_1 _ _ _ _ _) h))
theorem uS:∀n,iJ (eH n)/\oD (Dr n)/\qH (Fy n)/\rU (GJ n)
 | 0=>⟨λ_ _ _ h=>dF h,λ_ _ _ h=>dF h,λ_ _ _ _ h=>dF h,λ_ _ _ _ h=>dF h⟩
 | n+1=>
   have ih:=uS n
   ⟨Cv ih.2.1 n,Ay ih.2.2.1 ih.2.2.2 n,BO ih.1 n,Dv ih.1 n⟩
theorem DZ (n:Nat):iJ (eH n):=(uS n).1
instance:nB 123 (∀n,iJ (eH n)):=⟨DZ⟩
def vP (f:aE->Option (aD × aE)):Prop:=∀a0 r,f a0=some r->∀(q:Pa) (m:M) (vs:List V) (P0:Pa),vs.map V.weak1=[.ptr P0 0]/\m.blk P0=some ((aE.C a0))/\m.gl 4=.eptr [(cA cS cD)] 0 0/\m.gl 6=.eptr [(cA (cA cS) cU)] 0 0->SC prog 87 vs q m (λv Y=>v=.agg ((aD.C r.1))/\Y=(m.set P0 ((aE.C r.2))))
theorem BN (n:Nat):vP (kX n):=λa0 r h q m vs P0 ⟨hv,hmP0,_,_⟩=>SC.wva hv (SC.ac hmP0 λ_ _ _=>haveI:nB 121 (∀n,uH (fP n)):=⟨AA⟩;cZ func87 call87 ntmps87 results87 rfl (wk .z q m (kX.eq_1 _ _) h))
instance:nB 87 (∀n,vP (kX n)):=⟨BN⟩
def Ls (f:cF->Option (aD × Int × Int)):Prop:=∀a0 r,f a0=some r->∀(q:Pa) (m:M) (vs:List V),vs.map V.weak1=[.list .none (pZ a0)]/\m.gl 3=.eptr [(cA cS fH)] 0 0/\m.gl 4=.eptr [(cA cS cD)] 0 0/\m.gl 6=.eptr [(cA (cA cS) cU)] 0 0->SC prog 56 vs q m (λv Y=>v=.tup [.agg ((aD.C r.1)),.li r.2.1,.li r.2.2]/\Y=m)
theorem Kq (n:Nat):Ls (Ax n):=λa0 r h q m vs ⟨hv,_,_,_⟩=>SC.wva hv (cZ func56 call56 ntmps56 results56 rfl (wk (.c .z (.l [.b 8 aE λy=>(aE.C y),.b 9 aD λy=>[.li y.bS,.li y.fG,.ls y.cY,.lw y.oR,.list .self (y.aO.map aD.C)]] [2,8,9] [2] [] none (.j 2 6 11 [.v 36 Bool λy=>.lb y] [2,8,9] [2,8,9] [] none .z .z) .z)) q m (Ax.eq_1 _ _) h))
def yM (f:aG->aH->Int->Int->Option aH):Prop:=∀a0 a1 a2 a3 r,f a0 a1 a2 a3=some r->∀(q:Pa) (m:M) (vs:List V) (P0:Pa) (F0 fp0 S0 C0:V),vs.map V.weak1=[.ptr P0 0,.li a2,.li a3]/\m.blk P0=some (qQ F0 fp0 S0 C0 a0 a1)/\cX F0 fp0 S0 C0 m.hp a0->SC prog 95 vs q m (λv Y=>v=.tup []/\Y=(m.set P0 (qQ F0 fp0 S0 C0 a0 r)))
theorem Ei:yM (pW):=λa0 a1 a2 a3 r h q m vs P0 F0 fp0 S0 C0 ⟨hv,hmP0,t0⟩=>SC.wva hv (SC.ac hmP0 λ_ _ _=>cZ func95 call95 ntmps95 results95 rfl (wk .z q m (pW.eq_1 _ _ _ _) h))
instance:nB 95 (yM pW):=⟨Ei⟩
def yI (f:aG->aH->Bool->Int->Int->Option aH):Prop:=∀a0 a1 a2 a3 a4 r,f a0 a1 a2 a3 a4=some r->∀(q:Pa) (m:M) (vs:List V) (P0:Pa) (F0 fp0 S0 C0:V),vs.map V.weak1=[.ptr P0 0,.lb a2,.li a3,.li a4]/\m.blk P0=some (qQ F0 fp0 S0 C0 a0 a1)/\cX F0 fp0 S0 C0 m.hp a0->SC prog 60 vs q m (λv Y=>v=.tup []/\Y=(m.set P0 (qQ F0 fp0 S0 C0 a0 r)))
theorem bM:yI (bC):=λa0 a1 a2 a3 a4 r h q m vs P0 F0 fp0 S0 C0 ⟨hv,hmP0,t0⟩=>SC.wva hv (SC.ac hmP0 λ_ _ _=>cZ func60 call60 ntmps60 results60 rfl (wk .z q m (bC.eq_1 _ _ _ _ _) h))
instance:nB 60 (yI bC):=⟨bM⟩
