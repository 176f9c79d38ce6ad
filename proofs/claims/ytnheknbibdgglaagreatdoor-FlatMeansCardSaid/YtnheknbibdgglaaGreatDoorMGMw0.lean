import Derived.Test.YtnheknbibdgglaaGreatDoorMH4
import Derived.Test.YtnheknbibdgglaaGreatDoorMAw
namespace Go.Proofs.YtnheknbibdgglaaGreatDoor.Abs
open Go.RowKit Tryz
open IntKind (i64 u32 u64 u8)
set_option linter.all false
set_option maxRecDepth 10000
set_option maxHeartbeats 2000000
open Tryz
instance:VM bK.C 2:=⟨λx=>by rw [bK.C_eq];rfl⟩
instance:VF gO 26:=⟨zb⟩
instance:VF dD 5:=⟨zb⟩
def Iq (f:Int->Option Bool):Prop:=∀a0 r,f a0=some r->Ey prog 115 [.lit (.int .u8 a0)] (.lb r)
theorem Mf:Iq (AG):=λa0 r h q m vs hv=>SC.wva hv (fF func115 call115 ntmps115 results115 rfl (wk (.j 2 1 16 [.v 2 Bool λy=>.lb y] [] [] [] none .z .z) q m (AG.eq_1 _) h))
instance:rX 115 (Iq AG):=⟨Mf⟩
def rU (f:cQ->cQ->Option Bool):Prop:=∀a0 a1 r,f a0 a1=some r->Ey prog 149 [.ls a0,.ls a1] (.lb r)
theorem wP:rU (fY):=λa0 a1 r h q m vs hv=>SC.wva hv (fF func149 call149 ntmps149 results149 rfl (wk (.j 2 1 15 [.v 4 Bool λy=>.lb y] [] [] [] none .z .z) q m (fY.eq_1 _ _) h))
instance:rX 149 (rU fY):=⟨wP⟩
def Ae (f:cQ->cQ->Option Bool):Prop:=∀a0 a1 r,f a0 a1=some r->Ey prog 116 [.ls a0,.ls a1] (.lb r)
theorem EX:Ae (nG):=λa0 a1 r h q m vs hv=>SC.wva hv (fF func116 call116 ntmps116 results116 rfl (wk .z q m (nG.eq_1 _ _) h))
instance:rX 116 (Ae nG):=⟨EX⟩
def qZ (f:cQ->Int->Option Int):Prop:=∀a0 a1 r,f a0 a1=some r->Ey prog 173 [.ls a0,.lit (.int .u8 a1)] (.li r)
theorem vE:qZ nW:=by
 intro a0 a1 r h q m vs hv;refine SC.weak ?_;rw [hv];cases h;intro c xs w h1 h2 h3;obtain ⟨x,xs,rfl,k1,k2⟩:=h2.uncons;obtain ⟨y,rfl,k3⟩:=k2.inv_one;obtain rfl:=k1.inv_lit;obtain rfl:=k3.inv_lit;refine .inr ⟨.int .i64 (Lib.indexByte a0 a1.toNat.toUInt8),w,?_,_,c,_,m,rfl,⟨rfl,rfl⟩,h1,.refl q c m w,.lit .nil⟩;rw [run_callFunc_extern (fn:=f173) (e:=Extern.BytealgIndexByte.indexByte) func173 zd zd zd (by rfl)];have:=Lib.run_indexByteString (P:=prog) (bs a0) a1 w;rw [this];rfl
instance:rX 173 (qZ nW):=⟨vE⟩
def rT (f:cQ->Int->Option Int):Prop:=∀a0 a1 r,f a0 a1=some r->Ey prog 150 [.ls a0,.lit (.int .u8 a1)] (.li r)
theorem wO:rT (lM):=λa0 a1 r h q m vs hv=>SC.wva hv (fF func150 call150 ntmps150 results150 rfl (wk .z q m (lM.eq_1 _ _) h))
instance:rX 150 (rT lM):=⟨wO⟩
def Ad (f:cQ->Int->Option Int):Prop:=∀a0 a1 r,f a0 a1=some r->Ey prog 117 [.ls a0,.lit (.int .u8 a1)] (.li r)
theorem EW:Ad (nE):=λa0 a1 r h q m vs hv=>SC.wva hv (fF func117 call117 ntmps117 results117 rfl (wk .z q m (nE.eq_1 _ _) h))
instance:rX 117 (Ad nE):=⟨EW⟩
def JE (f:cQ->Int->Option Int):Prop:=∀a0 a1 r,f a0 a1=some r->Ey prog 77 [.ls a0,.li a1] (.li r)
theorem ND (n:Nat):JE (Bg n):=λa0 a1 r h q m vs hv=>SC.wva hv (fF func77 call77 ntmps77 results77 rfl (wk (.l [.v 1 Int λy=>.li y] [0] [] [] none .z .z) q m (Bg.eq_1 _ _ _) h))
instance:rX 77 (∀n,JE (Bg n)):=⟨ND⟩
def Hl (f:Int->Option Bool):Prop:=∀a0 r,f a0=some r->Ey prog 119 [.lit (.int .u8 a0)] (.lb r)
theorem Kz:Hl (vT):=λa0 r h q m vs hv=>SC.wva hv (fF func119 call119 ntmps119 results119 rfl (wk (.j 2 1 12 [.v 2 Bool λy=>.lb y] [] [] [] none .z .z) q m (vT.eq_1 _) h))
instance:rX 119 (Hl vT):=⟨Kz⟩
def Ir (f:Int->Option Bool):Prop:=∀a0 r,f a0=some r->Ey prog 120 [.lit (.int .u8 a0)] (.lb r)
theorem Mg:Ir (yM):=λa0 r h q m vs hv=>SC.wva hv (fF func120 call120 ntmps120 results120 rfl (wk (.j 2 1 8 [.v 2 Bool λy=>.lb y] [] [] [] none .z .z) q m (yM.eq_1 _) h))
instance:rX 120 (Ir yM):=⟨Mg⟩
def JD (f:cQ->Option cQ):Prop:=∀a0 r,f a0=some r->Ey prog 118 [.ls a0] (.ls r)
theorem NC (n:Nat):JD (Dv n):=λa0 r h q m vs hv=>SC.wva hv (fF func118 call118 ntmps118 results118 rfl (wk (.l [.v 6 Int λy=>.li y] [0,5] [] [] none (.c (.j 2 4 15 [.v 20 Bool λy=>.lb y] [0,3,5,6] [] [] none .z .z) .z) .z) q m (Dv.eq_1 _ _) h))
instance:rX 118 (∀n,JD (Dv n)):=⟨NC⟩
def rW (f:cQ->cQ->Option (cQ × Bool)):Prop:=∀a0 a1 r,f a0 a1=some r->Ey prog 174 [.ls a0,.ls a1] (.tup [.ls r.1,.lb r.2])
theorem wQ:rW (jH):=λa0 a1 r h q m vs hv=>SC.wva hv (fF func174 call174 ntmps174 results174 rfl (wk .z q m (jH.eq_1 _ _) h))
instance:rX 174 (rW jH):=⟨wQ⟩
def Af (f:cQ->cQ->Option (cQ × Bool)):Prop:=∀a0 a1 r,f a0 a1=some r->Ey prog 151 [.ls a0,.ls a1] (.tup [.ls r.1,.lb r.2])
theorem EY:Af (pN):=λa0 a1 r h q m vs hv=>SC.wva hv (fF func151 call151 ntmps151 results151 rfl (wk .z q m (pN.eq_1 _ _) h))
instance:rX 151 (Af pN):=⟨EY⟩
def Ip (f:cQ->Option (Int × Bool)):Prop:=∀a0 r,f a0=some r->Ey prog 121 [.ls a0] (.tup [.lw r.1,.lb r.2])
theorem Me (n:Nat):Ip (AF n):=λa0 r h q m vs hv=>SC.wva hv (fF func121 call121 ntmps121 results121 rfl (wk (.c (.l [.v 7 Int λy=>.li y,.v 19 Int λy=>.li y] [0,4,18] [] [] none (.c (.j 2 11 22 [.v 38 Bool λy=>.lb y] [0,4,7,18,19] [] [] none .z .z) .z) .z) (.l [.v 7 Int λy=>.li y,.v 19 Int λy=>.li y] [0,4,18] [] [] none (.c (.j 2 11 22 [.v 38 Bool λy=>.lb y] [0,4,7,18,19] [] [] none .z .z) .z) .z)) q m (AF.eq_1 _ _) h))
instance:rX 121 (∀n,Ip (AF n)):=⟨Me⟩
def JF (f:cQ->Option cQ):Prop:=∀a0 r,f a0=some r->∀(q:Pa) (m:M) (vs:List V),vs.map V.weak1=[.ls a0]/\m.gl 1=.eptr [(cA cS gO)] 0 0->SC prog 122 vs q m (λv Y=>v=.ls r/\Y=m)
theorem NE (n:Nat):JF (Dw n):=λa0 r h q m vs ⟨hv,_⟩=>SC.wva hv (fF func122 call122 ntmps122 results122 rfl (wk (.l [.v 6 Int λy=>.li y] [0,5] [] [] none .z .z) q m (Dw.eq_1 _ _) h))
instance:rX 122 (∀n,JF (Dw n)):=⟨NE⟩
def JG (f:cQ->Int->Option (dU × Int)):Prop:=∀a0 a1 r,f a0 a1=some r->∀(q:Pa) (m:M) (vs:List V),vs.map V.weak1=[.ls a0,.li a1]/\m.gl 1=.eptr [(cA cS gO)] 0 0->SC prog 78 vs q m (λv Y=>v=.tup [.agg ((dU.C r.1)),.li r.2]/\Y=m)
theorem NF (n:Nat):JG (Dx n):=λa0 a1 r h q m vs ⟨hv,_⟩=>SC.wva hv (fF func78 call78 ntmps78 results78 rfl (wk .z q m (Dx.eq_1 _ _ _) h))
instance:rX 78 (∀n,JG (Dx n)):=⟨NF⟩
def Hk (f:cQ->Option ((List dU) × Int × Int)):Prop:=∀a0 r,f a0=some r->∀(q:Pa) (m:M) (vs:List V),vs.map V.weak1=[.list .none (pK a0)]/\m.gl 1=.eptr [(cA cS gO)] 0 0->SC prog 49 vs q m (λv Y=>v=.tup [.list .none (r.1.map dU.C),.li r.2.1,.li r.2.2]/\Y=m)
theorem Ky (n:Nat):Hk (yL n):=λa0 r h q m vs ⟨hv,_⟩=>SC.wva hv (fF func49 call49 ntmps49 results49 rfl (wk (.c .z (.s 6 (.l [.o 6 (List dU) λy=>(y.map dU.C),.v 7 Int λy=>.li y] [5] [] [] none .z .z))) q m (yL.eq_1 _ _) h))
instance:rX 49 (∀n,Hk (yL n)):=⟨Ky⟩
def wU (f:aC->Option dU):Prop:=∀a0 r,f a0=some r->∀(q:Pa) (m:M) (vs:List V) (P0:Pa),vs.map V.weak1=[.ptr P0 0]/\m.blk P0=some ((aC.C a0))->SC prog 51 vs q m (λv Y=>v=.agg ((dU.C r))/\Y=m)
theorem Dd:wU (dV):=λa0 r h q m vs P0 ⟨hv,hmP0⟩=>SC.wva hv (SC.ac hmP0 λ_ _ _=>fF func51 call51 ntmps51 results51 rfl (wk .z q m (dV.eq_1 _) h))
instance:rX 51 (wU dV):=⟨Dd⟩
def xZ (f:aC->Int->Option aC):Prop:=∀a0 a1 r,f a0 a1=some r->∀(q:Pa) (m:M) (vs:List V) (P0:Pa),vs.map V.weak1=[.ptr P0 0,.li a1]/\m.blk P0=some ((aC.C a0))->SC prog 79 vs q m (λv Y=>v=.tup []/\Y=(m.set P0 ((aC.C r))))
theorem DZ:xZ (iM):=λa0 a1 r h q m vs P0 ⟨hv,hmP0⟩=>SC.wva hv (SC.ac hmP0 λ_ _ _=>fF func79 call79 ntmps79 results79 rfl (wk .z q m (iM.eq_1 _ _) h))
instance:rX 79 (xZ iM):=⟨DZ⟩
def xW (f:aC->Int->Option (aB × aC)):Prop:=∀a0 a1 r,f a0 a1=some r->∀(q:Pa) (m:M) (vs:List V) (P0:Pa),vs.map V.weak1=[.ptr P0 0,.li a1]/\m.blk P0=some ((aC.C a0))->SC prog 50 vs q m (λv Y=>∃(id:Pa) (j:Nat),q <:+ id/\v=.agg ([.li r.1.bF,.li r.1.fV,.ls r.1.dL,.lw r.1.nY,.list (.st (.anon id j)) (r.1.aM.map aB.C)])/\Y=(m.set P0 ((aC.C r.2))).tokset id j true)
theorem DX:xW (fK):=λa0 a1 r h q m vs P0 ⟨hv,hmP0⟩=>SC.wva hv (SC.ac hmP0 λ_ _ _=>SC_vo func50 call50 ntmps50 results50 4 rfl λ_=>wk .z q m (fK.eq_1 _ _) h)
instance:rX 50 (xW fK):=⟨DX⟩
def sH (f:(List cQ)->cQ->Option Int):Prop:=∀a0 a1 r,f a0 a1=some r->Ey prog 175 [.list .none (a0.map cS),.ls a1] (.li r)
theorem xP (n:Nat):sH (jW n):=λa0 a1 r h q m vs hv=>SC.wva hv (fF func175 call175 ntmps175 results175 rfl (wk (.l [.v 8 Int λy=>.li y] [0,1,7] [] [] none .z .z) q m (jW.eq_1 _ _ _) h))
instance:rX 175 (∀n,sH (jW n)):=⟨xP⟩
def rD (f:(List cQ)->cQ->Option Bool):Prop:=∀a0 a1 r,f a0 a1=some r->Ey prog 152 [.list .none (a0.map cS),.ls a1] (.lb r)
theorem vQ (n:Nat):rD (iY n):=λa0 a1 r h q m vs hv=>SC.wva hv (fF func152 call152 ntmps152 results152 rfl (wk .z q m (iY.eq_1 _ _ _) h))
instance:rX 152 (∀n,rD (iY n)):=⟨vQ⟩
def Hh (f:cQ->Option Bool):Prop:=∀a0 r,f a0=some r->∀(q:Pa) (m:M) (vs:List V),vs.map V.weak1=[.ls a0]/\m.gl 2=.eptr [(cA cS cT)] 0 0->SC prog 124 vs q m (λv Y=>v=.lb r/\Y=m)
theorem Kt (n:Nat):Hh (vS n):=λa0 r h q m vs ⟨hv,_⟩=>SC.wva hv (fF func124 call124 ntmps124 results124 rfl (wk .z q m (vS.eq_1 _ _) h))
instance:rX 124 (∀n,Hh (vS n)):=⟨Kt⟩
def Ah (f:aC->cQ->Option Bool):Prop:=∀a0 a1 r,f a0 a1=some r->∀(q:Pa) (m:M) (vs:List V) (P0:Pa),vs.map V.weak1=[.ptr P0 0,.ls a1]/\m.blk P0=some ((aC.C a0))/\m.gl 2=.eptr [(cA cS cT)] 0 0->SC prog 123 vs q m (λv Y=>v=.lb r/\Y=m)
theorem zI (n:Nat):Ah (jK n):=λa0 a1 r h q m vs P0 ⟨hv,hmP0,_⟩=>SC.wva hv (SC.ac hmP0 λ_ _ _=>fF func123 call123 ntmps123 results123 rfl (wk (.j 2 2 31 [.v 4 Bool λy=>.lb y] [0] [0] [] none .z .z) q m (jK.eq_1 _ _ _) h))
instance:rX 123 (∀n,Ah (jK n)):=⟨zI⟩
def xT (f:aC->cQ->Option (Bool × aC)):Prop:=∀a0 a1 r,f a0 a1=some r->∀(q:Pa) (m:M) (vs:List V) (P0:Pa),vs.map V.weak1=[.ptr P0 0,.ls a1]/\m.blk P0=some ((aC.C a0))/\m.gl 2=.eptr [(cA cS cT)] 0 0->SC prog 80 vs q m (λv Y=>v=.lb r.1/\Y=(m.set P0 ((aC.C r.2))))
theorem nL (n:Nat):xT (bW n):=λa0 a1 r h q m vs P0 ⟨hv,hmP0,_⟩=>SC.wva hv (SC.ac hmP0 λ_ _ _=>fF func80 call80 ntmps80 results80 rfl (wk .z q m (bW.eq_1 _ _ _) h))
instance:rX 80 (∀n,xT (bW n)):=⟨nL⟩
def xX (f:aC->cQ->Option aC):Prop:=∀a0 a1 r,f a0 a1=some r->∀(q:Pa) (m:M) (vs:List V) (P0:Pa),vs.map V.weak1=[.ptr P0 0,.ls a1]/\m.blk P0=some ((aC.C a0))/\m.gl 2=.eptr [(cA cS cT)] 0 0->SC prog 81 vs q m (λv Y=>v=.tup []/\Y=(m.set P0 ((aC.C r))))
theorem nP (n:Nat):xX (bS n):=λa0 a1 r h q m vs P0 ⟨hv,hmP0,_⟩=>SC.wva hv (SC.ac hmP0 λ_ _ _=>fF func81 call81 ntmps81 results81 rfl (wk .z q m (bS.eq_1 _ _ _) h))
instance:rX 81 (∀n,xX (bS n)):=⟨nP⟩
def xY (f:aC->Option (cQ × aC)):Prop:=∀a0 r,f a0=some r->∀(q:Pa) (m:M) (vs:List V) (P0:Pa),vs.map V.weak1=[.ptr P0 0]/\m.blk P0=some ((aC.C a0))/\m.gl 2=.eptr [(cA cS cT)] 0 0->SC prog 82 vs q m (λv Y=>v=.ls r.1/\Y=(m.set P0 ((aC.C r.2))))
theorem DY (n:Nat):xY (eP n):=λa0 r h q m vs P0 ⟨hv,hmP0,_⟩=>SC.wva hv (SC.ac hmP0 λ_ _ _=>fF func82 call82 ntmps82 results82 rfl (wk (.j 2 2 20 [.v 20 Bool λy=>.lb y] [0,3] [0,3] [] none .z .z) q m (eP.eq_1 _ _) h))
instance:rX 82 (∀n,xY (eP n)):=⟨DY⟩
def wA (f:aC->Option (Int × aC)):Prop:=∀a0 r,f a0=some r->∀(q:Pa) (m:M) (vs:List V) (P0:Pa),vs.map V.weak1=[.ptr P0 0]/\m.blk P0=some ((aC.C a0))->SC prog 153 vs q m (λv Y=>v=.lw r.1/\Y=(m.set P0 ((aC.C r.2))))
theorem Cw:wA (kG):=λa0 r h q m vs P0 ⟨hv,hmP0⟩=>SC.wva hv (SC.ac hmP0 λ_ _ _=>fF func153 call153 ntmps153 results153 rfl (wk (.j 2 2 15 [.v 15 Bool λy=>.lb y] [0,3] [0,3] [] none .z .z) q m (kG.eq_1 _) h))
instance:rX 153 (wA kG):=⟨Cw⟩
def xU (f:aC->Option (Int × aC)):Prop:=∀a0 r,f a0=some r->∀(q:Pa) (m:M) (vs:List V) (P0:Pa),vs.map V.weak1=[.ptr P0 0]/\m.blk P0=some ((aC.C a0))/\m.gl 2=.eptr [(cA cS cT)] 0 0->SC prog 125 vs q m (λv Y=>v=.lw r.1/\Y=(m.set P0 ((aC.C r.2))))
theorem DU (n:Nat):xU (lV n):=λa0 r h q m vs P0 ⟨hv,hmP0,_⟩=>SC.wva hv (SC.ac hmP0 λ_ _ _=>fF func125 call125 ntmps125 results125 rfl (wk .z q m (lV.eq_1 _ _) h))
instance:rX 125 (∀n,xU (lV n)):=⟨DU⟩
def wW (f:aC->Option (aB × aC)):Prop:=∀a0 r,f a0=some r->∀(q:Pa) (m:M) (vs:List V) (P0:Pa),vs.map V.weak1=[.ptr P0 0]/\m.blk P0=some ((aC.C a0))/\m.gl 2=.eptr [(cA cS cT)] 0 0->SC prog 84 vs q m (λv Y=>v=.agg ((aB.C r.1))/\Y=(m.set P0 ((aC.C r.2))))
instance:VF kN 3:=⟨zb⟩
@[go_sem low] theorem Kj {n:Nat}:List.drop n [V.lit (.string (bs ([112,117,98]:cQ))),V.lit (.string (bs ([117,51,50]:cQ))),V.lit (.string (bs ([117,54,52]:cQ)))]=OY cS kN[n]? ++ cA cS (kN.drop (n+1)):=NQ (f:=cS) (l:=kN)
theorem Df (n:Nat):wW (mR n):=λa0 r h q m vs P0 ⟨hv,hmP0,_⟩=>SC.wva hv (SC.ac hmP0 λ_ _ _=>fF func84 call84 ntmps84 results84 rfl (wk (.l [.v 15 Int λy=>.li y,.b 0 aC λy=>(aC.C y),.b 2 aB λy=>[.li y.bF,.li y.fV,.ls y.dL,.lw y.nY,.list .self (y.aM.map aB.C)],.b 3 aB λy=>[.li y.bF,.li y.fV,.ls y.dL,.lw y.nY,.list .self (y.aM.map aB.C)]] [0,2,3,14] [] [] none .z .z) q m (mR.eq_1 _ _) h))
instance:rX 84 (∀n,wW (mR n)):=⟨Df⟩
def tI (f:aC->Option ((List aB) × aC)):Prop:=∀a0 r,f a0=some r->∀(q:Pa) (m:M) (vs:List V) (P0:Pa),vs.map V.weak1=[.ptr P0 0,.fn (.func 84) [.ptr P0 0] []]/\m.blk P0=some ((aC.C a0))/\m.gl 2=.eptr [(cA cS cT)] 0 0->SC prog 83 vs q m (λv Y=>∃(id:Pa) (j:Nat),q <:+ id/\v=.list (.st (.anon id j)) (r.1.map aB.C)/\Y=(m.set P0 ((aC.C r.2))).tokset id j true)
theorem zH (n:Nat):tI (gL n):=λa0 r h q m vs P0 ⟨hv,hmP0,_⟩=>SC.wva hv (SC.ac hmP0 λ_ _ _=>SC_vo func83 call83 ntmps83 results83 0 rfl λ_=>wk (.c .z (.j 1 0 8 [.o 5 (List aB) λy=>(y.map aB.C),.b 0 aC λy=>(aC.C y)] [0,1] [] [] none (.s 5 (.l [.o 5 (List aB) λy=>(y.map aB.C),.b 0 aC λy=>(aC.C y)] [0,1] [] [] none .z .z)) .z)) q m (gL.eq_1 _ _) h)
def yA (f:aC->Int->Option aC):Prop:=∀a0 a1 r,f a0 a1=some r->∀(q:Pa) (m:M) (vs:List V) (P0:Pa),vs.map V.weak1=[.ptr P0 0,.li a1]/\m.blk P0=some ((aC.C a0))->SC prog 126 vs q m (λv Y=>v=.tup []/\Y=(m.set P0 ((aC.C r))))
theorem Eb:yA (lX):=λa0 a1 r h q m vs P0 ⟨hv,hmP0⟩=>SC.wva hv (SC.ac hmP0 λ_ _ _=>fF func126 call126 ntmps126 results126 rfl (wk .z q m (lX.eq_1 _ _) h))
instance:rX 126 (yA lX):=⟨Eb⟩
def xV (f:aC->Int->Option cQ):Prop:=∀a0 a1 r,f a0 a1=some r->∀(q:Pa) (m:M) (vs:List V) (P0:Pa),vs.map V.weak1=[.ptr P0 0,.li a1]/\m.blk P0=some ((aC.C a0))/\m.gl 2=.eptr [(cA cS cT)] 0 0/\m.gl 6=.eptr [(cA (cA cS) dM)] 0 0->SC prog 188 vs q m (λv Y=>v=.ls r/\Y=m)
theorem DV (n:Nat):xV (lW n):=by
 rintro a0 a1 r h q m vs P0 ⟨hv,hmP0,hg2,hg6⟩;refine SC.wv hv ?_;refine SC.apart hmP0 λhpP0=>?_
 try simp only [go_sem] at hmP0
 refine oE func188 call188 ntmps188 results188 ?_;unfold lW at h;refine bC ?_;refine aN (aN ?_);obtain ⟨x1,h5,h⟩:=aD h;obtain ⟨f2,f3,f4⟩:=aY h5;have f6:a1<7:=f3;obtain ⟨w7,d8⟩:=Mw (f:=(cA cS)) (s:=3) (Vi (f:=(cA cS)) (s:=3) _ zd) f4;have d9:=(Vi (f:=(cA cS)) (s:=3) _ zd) _ (zX f4);have d10:=List.take_left' (l₂:=w7) d9;have d11:(3<=(cA cS x1).length+w7.length)=True:=eq_true za;refine bX λ_ z=>?_;simp only [go_sem,seval,f2,f6,d10,d11,d8,hg6];apply z;refine cK ?_;obtain ⟨y14,j14,h⟩:=aD h;refine rG (λc X Y=>∃v13,lG n x1 a0 c v13=some y14/\X 0=.ptr P0 0/\X 9=.agg ((cA cS x1))/\X 10=.li v13/\Y.blk P0=some ((aC.C a0))/\Y.gl=m.gl/\m.back q Y=m) n ⟨0,j14,?_⟩ ?_
 ·simp only [go_sem,seval,bG,hmP0]
 rintro i12 c15 E16 m17 ⟨v13,j14,e18⟩ _
 rcases c15 with _ | c15
 ·cases j14
 rw [lG] at j14;refine bC ?_;refine aN (cY j14 (λc19 j14=>?_) (λc19 j14=>?_))
 ·refine bL ?_
  refine aN (cK (aN ?_));obtain ⟨x20,h24,j14⟩:=aD j14;obtain ⟨f21,f22,f23⟩:=aY h24;have f25:=(sG.1 f23).1;have f26:v13<3:=by have:=cA_one d9;omega
  obtain ⟨w27,d28⟩:=Mw (f:=cS) (s:=1) (λ_ _=>rfl) f23;simp only [go_sem] at d28;refine dY ?_;refine aN ?_;obtain ⟨y29,j29,j14⟩:=aD j14;refine rE 10 (λX Y=>X 0=.ptr P0 0/\X 6=.ls x20/\X 9=.agg ((cA cS x1))/\X 10=.li v13/\X 19=.lb y29/\Y.blk P0=some ((aC.C a0))/\Y.gl=m.gl/\m.back q Y=m) ?_ ?_
  ·rcases mL j29 with ⟨c30,j29⟩ | ⟨c30,j29⟩
   ·obtain ⟨x31,h32,j29⟩:=aD j29;refine bX λ_ z=>?_;simp only [go_sem,seval,c30,e18];refine SC.bA (zI n a0 x20 _ h32 _ _ _ P0) ?_;simp only [go_sem,seval];apply z;cases j29;exact jD
   ·refine dY ?_;cases j29;exact jD
  ·intro E33 m34 e35 _;refine cY j14 (λc36 j14=>?_) (λc36 j14=>?_)
   ·refine bC ?_;refine cB ?_
    try simp only [cE,gP]
    cases j14;simp only [PQ] at h;cases h;exact jS
   ·refine bL ?_
    try simp only [aR,bJ]
    refine dY ?_;refine ⟨c15,EO _,(i64.wrap (v13+1)),j14,?_⟩;simp only [go_sem,seval,e35]
 ·refine gE ?_
  try simp only [cV,cM,↓reduceIte,aR]
  cases j14;simp only [SP] at h;refine bC ?_;refine cB ?_;cases h;exact jS
instance:rX 188 (∀n,xV (lW n)):=⟨DV⟩
def kJ (f:aC->Int->Option ((List aB) × aC)):Prop:=∀a0 a1 r,f a0 a1=some r->∀(q:Pa) (m:M) (vs:List V) (P0:Pa) (P1:Pa) (P2:Pa),vs.map V.weak1=[.ptr P0 0,.fn (.func 196) [] [.ptr P1 0,.ptr P2 0]]/\m.blk P0=some ((aC.C a0))/\m.blk P1=some ([.ptr P0 0])/\m.blk P2=some ([.li a1])/\(P0=P1)=False/\(P0=P2)=False/\(P1=P0)=False/\(P1=P2)=False/\(P2=P0)=False/\(P2=P1)=False/\m.gl 2=.eptr [(cA cS cT)] 0 0/\m.gl 6=.eptr [(cA (cA cS) dM)] 0 0->SC prog 83 vs q m (λv Y=>v=.list .none (r.1.map aB.C)/\Y=(m.set P0 ((aC.C r.2))))
def iZ (f:aC->Int->Option (aB × aC)):Prop:=∀a0 a1 r,f a0 a1=some r->∀(q:Pa) (m:M) (vs:List V) (P0:Pa),vs.map V.weak1=[.ptr P0 0,.li a1]/\m.blk P0=some ((aC.C a0))/\m.gl 2=.eptr [(cA cS cT)] 0 0/\m.gl 6=.eptr [(cA (cA cS) dM)] 0 0->SC prog 155 vs q m (λv Y=>v=.agg ((aB.C r.1))/\Y=(m.set P0 ((aC.C r.2))))
def lH (f:aC->Int->Int->Option (aB × aC)):Prop:=∀a0 a1 a2 r,f a0 a1 a2=some r->∀(q:Pa) (m:M) (vs:List V) (P0:Pa),vs.map V.weak1=[.ptr P0 0,.li a1,.li a2]/\m.blk P0=some ((aC.C a0))/\m.gl 2=.eptr [(cA cS cT)] 0 0/\m.gl 6=.eptr [(cA (cA cS) dM)] 0 0->SC prog 176 vs q m (λv Y=>v=.agg ((aB.C r.1))/\Y=(m.set P0 ((aC.C r.2))))
def kD (f:aC->Int->Option (aB × aC)):Prop:=∀a0 a1 r,f a0 a1=some r->∀(q:Pa) (m:M) (vs:List V) (P0:Pa),vs.map V.weak1=[.ptr P0 0,.li a1]/\m.blk P0=some ((aC.C a0))/\m.gl 2=.eptr [(cA cS cT)] 0 0/\m.gl 6=.eptr [(cA (cA cS) dM)] 0 0->SC prog 187 vs q m (λv Y=>v=.agg ((aB.C r.1))/\Y=(m.set P0 ((aC.C r.2))))
def qW (f:aC->Int->Option (aB × aC)):Prop:=∀a0 a1 r,f a0 a1=some r->∀(q:Pa) (m:M) (vs:List V) (P0:Pa) (P1:Pa) (P2:Pa),vs.map V.weak1=[.ptr P1 0,.ptr P2 0]/\m.blk P0=some ((aC.C a0))/\m.blk P1=some ([.ptr P0 0])/\m.blk P2=some ([.li a1])/\(P0=P1)=False/\(P0=P2)=False/\(P1=P0)=False/\(P1=P2)=False/\(P2=P0)=False/\(P2=P1)=False/\m.gl 2=.eptr [(cA cS cT)] 0 0/\m.gl 6=.eptr [(cA (cA cS) dM)] 0 0->SC prog 196 vs q m (λv Y=>v=.agg ((aB.C r.1))/\Y=(m.set P0 ((aC.C r.2))))
theorem uX {fN} (zM:qW fN) (n:Nat):kJ (iT fN n):=by
 rintro a0 a1 r h q m vs P0 P1 P2 ⟨hv,hmP0,hmP1,hmP2,hn0_1,hn0_2,hn1_0,hn1_2,hn2_0,hn2_1,hg2,hg6⟩;refine SC.wv hv ?_;refine SC.apart hmP0 λhpP0=>?_;refine SC.apart hmP1 λhpP1=>?_;refine SC.apart hmP2 λhpP2=>?_;have l0:=pF hmP0
 try simp only [go_sem] at hmP0 l0
 skip
 try simp only [go_sem,seval] at hmP2
 refine oE func83 call83 ntmps83 results83 ?_;unfold iT at h;refine bC ?_;refine bC ?_;refine aN ?_;obtain ⟨x1,h2,h⟩:=aD h;refine bX λ_ z=>?_;simp only [go_sem,seval];refine SC.bA (nP n a0 ([40]:cQ) _ h2 _ _ _ P0) ?_;simp only [go_sem,seval];apply z;refine aN (aN ?_);obtain ⟨x3,h4,h⟩:=aD h;refine bX λ_ z=>?_;simp only [go_sem,seval];refine SC.bA (nL n x1 ([41]:cQ) _ h4 _ _ _ P0) ?_;simp only [go_sem,seval];apply z;refine cY h (λc5 h=>?_) (λc5 h=>?_)
 ·refine bC ?_;refine cB ?_
  try simp only [cE]
  cases h;exact jS
 ·refine bL ?_
  refine aN ?_;obtain ⟨y6,j6,h⟩:=aD h;refine rE 8 (λX Y=>∃(oy6_5:Pa) (jy6_5:Nat),X 0=.ptr P0 0/\X 5=.list (.st (.anon oy6_5 jy6_5)) (y6.1.map aB.C)/\Y.tok oy6_5 jy6_5=true/\q <:+ oy6_5/\Y.blk P0=some ((aC.C y6.2))/\Y.blk P1=some ([.ptr P0 0])/\Y.blk P2=some ([.li a1])/\Y.gl=m.gl/\m.back q Y=(m.set P0 ((aC.C y6.2)))) ?_ ?_
  ·refine cK ?_;obtain ⟨y10,j10,j6⟩:=aD j6;refine zU 5 ([].map aB.C) rfl (by simp only [go_sem,seval,c5]) ?_;refine rG (λc X Y=>∃v8 v9 o_v8 j_v8,gJ fN n a1 c v8 v9=some y10/\X 0=.ptr P0 0/\X 1=.fn (.func 196) [] [.ptr P1 0,.ptr P2 0]/\X 5=.list (.st (.anon o_v8 j_v8)) (v8.map aB.C)/\Y.tok o_v8 j_v8=true/\q <:+ o_v8/\Y.blk P0=some ((aC.C v9))/\Y.blk P1=some ([.ptr P0 0])/\Y.blk P2=some ([.li a1])/\Y.gl=m.gl/\m.back q Y=(m.set P0 ((aC.C v9)))) n ⟨[],x3.2,(6::q),0,j10,?_⟩ ?_
   ·simp only [go_sem,seval,bZ,bG,dW hpP0,hn1_0,hn2_0,c5,hmP1,hmP2]
   rintro i7 c11 E12 m13 ⟨v8,v9,o_v8,j_v8,j10,e14⟩ _
   rcases c11 with _ | c11
   ·cases j10
   rw [gJ] at j10;refine aN (bC ?_);refine cY j10 (λc15 j10=>?_) (λc15 j10=>?_)
   ·refine bL ?_
    refine cK (aN ?_);obtain ⟨x16,h17,j10⟩:=aD j10;obtain ⟨f18,j10⟩:=bN j10;have f19:v8.length+1<=1073741824:=by first | omega | (simp only [nB,jJ,mO] at f18 ⊢;omega)
    have f20:v8.length<=1073741823:=by first | omega | (simp only [nB,jJ,mO] at f18 ⊢;omega)
    refine bX λ_ z=>?_;simp only [go_sem,seval,c15,e14];refine SC.by_ (zM v9 a1 _ h17 _ _ _ P0 P1 P2 (by simp only [go_sem,hn0_1,hn0_2,hn1_0,hn1_2,hn2_0,hn2_1,e14,hg2,hg6])) ?_;simp only [go_sem,seval,f19,e14];apply z;refine aN ?_;obtain ⟨x21,h22,j10⟩:=aD j10;refine bX λ_ z=>?_;simp only [go_sem,seval,e14];refine SC.bA (nL n x16.2 ([44]:cQ) _ h22 _ _ _ P0) ?_;simp only [go_sem,seval];apply z;refine cY j10 (λc23 j10=>?_) (λc23 j10=>?_)
    ·refine gE ?_
     try simp only [seval,cV,cM,aR]
     cases j10;cases j6;refine ⟨zb,(9::i7::7::q),0,?_⟩;simp only [go_sem,seval,bZ,dW hpP0,hn1_0,hn2_0,c23,e14]
    ·refine bL ?_
     try simp only [aR,bJ]
     refine ⟨c11,EO _,(v8++[x16.1]),x21.2,(9::i7::7::q),0,j10,?_⟩;simp only [go_sem,seval,bZ,dW hpP0,hn1_0,hn2_0,c23,e14]
   ·refine gE ?_
    try simp only [cV,cM,↓reduceIte,aR]
    cases j10;cases j6;refine ⟨zb,o_v8,j_v8,?_⟩;simp only [go_sem,seval,c15,e14]
  ·rintro E24 m25 ⟨oy6_5,jy6_5,e26⟩ _;refine aN ?_;obtain ⟨x27,h28,h⟩:=aD h;refine bX λ_ z=>?_;simp only [go_sem,seval,e26];refine SC.bA (nP n y6.2 ([41]:cQ) _ h28 _ _ _ P0) ?_;simp only [go_sem,seval];apply z;refine bC ?_;refine cB ?_;cases h;exact jS
theorem Cy {dH} (rM:lH dH) (n:Nat):iZ (oP dH n):=haveI:rX 176 (lH dH):=⟨rM⟩;λa0 a1 r h q m vs P0 ⟨hv,hmP0,_,_⟩=>SC.wva hv (SC.ac hmP0 λ_ _ _=>fF func155 call155 ntmps155 results155 rfl (wk .z q m (oP.eq_1 _ _ _ _) h))
theorem Bx {dF} (qP:kD dF) {dH} (rM:lH dH) (n:Nat):lH (nQ dF dH n):=haveI:rX 187 (kD dF):=⟨qP⟩;haveI:rX 176 (lH dH):=⟨rM⟩;λa0 a1 a2 r h q m vs P0 ⟨hv,hmP0,_,_⟩=>SC.wva hv (SC.ac hmP0 λ_ _ _=>fF func176 call176 ntmps176 results176 rfl (wk (.c .z (.l [.v 8 cQ λy=>.ls y,.b 0 aC λy=>(aC.C y),.b 7 aB λy=>(aB.C y)] [0,1,2,6,7] [6] [] none .z .z)) q m (nQ.eq_1 _ _ _ _ _ _) h))
instance:VF iO 2:=⟨zb⟩
@[go_sem low] theorem IS {n:Nat}:List.drop n [V.lit (.string (bs ([126]:cQ))),V.lit (.string (bs ([45]:cQ)))]=OY cS iO[n]? ++ cA cS (iO.drop (n+1)):=NQ (f:=cS) (l:=iO)
theorem Am {eD} (sC:iZ eD) {dF} (qP:kD dF) {iI} (vG:kJ iI) (n:Nat):kD (mG eD dF iI n):=haveI:rX 155 (iZ eD):=⟨sC⟩;haveI:rX 187 (kD dF):=⟨qP⟩;haveI:rX 83 (kJ iI):=⟨vG⟩;λa0 a1 r h q m vs P0 ⟨hv,hmP0,_,_⟩=>SC.wva hv (SC.ac hmP0 λ_ _ _=>fF func187 call187 ntmps187 results187 rfl (wk (.c .z (.l [.v 24 Int λy=>.li y,.b 0 aC λy=>(aC.C y),.b 6 aB λy=>[.li y.bF,.li y.fV,.ls y.dL,.lw y.nY,.list .self (y.aM.map aB.C)],.b 4 aB λy=>[.li y.bF,.li y.fV,.ls y.dL,.lw y.nY,.list .self (y.aM.map aB.C)]] [0,2,3,4,6,23] [2,3] [] none .z (.j 2 14 26 [.v 51 Bool λy=>.lb y] [0,2,3,4,6] [0,6,2,3,4] [] none .z (.c .z (.j 1 2 47 [.b 0 aC λy=>(aC.C y),.b 6 aB λy=>(aB.C y)] [0,4,6] [4] [(6,4)] none .z .z))))) q m (mG.eq_1 _ _ _ _ _ _) h))
theorem zG {eD} (sC:iZ eD) (n:Nat):qW (kZ eD n):=haveI:rX 155 (iZ eD):=⟨sC⟩;λa0 a1 r h q m vs P0 P1 P2 ⟨hv,hmP0,hmP1,hmP2,_,_,_,_,_,_,_,_⟩=>SC.wva hv (SC.ac hmP0 λ_ _ _=>SC.ac hmP1 λ_ _ _=>SC.ac hmP2 λ_ _ _=>fF func196 call196 ntmps196 results196 rfl (wk .z q m (kZ.eq_1 _ _ _ _) h))
theorem pQ:∀n,kJ (yG n)/\iZ (fL n)/\lH (Fg n)/\kD (DW n)/\qW (Cv n)
 | 0=>⟨λ_ _ _ h=>eO h,λ_ _ _ h=>eO h,λ_ _ _ _ h=>eO h,λ_ _ _ h=>eO h,λ_ _ _ h=>eO h⟩
 | n+1=>
   have ih:=pQ n
   ⟨uX ih.2.2.2.2 n,Cy ih.2.2.1 n,Bx ih.2.2.2.1 ih.2.2.1 n,Am ih.2.1 ih.2.2.2.1 ih.1 n,zG ih.2.1 n⟩
theorem Ea (n:Nat):iZ (fL n):=(pQ n).2.1
instance:rX 155 (∀n,iZ (fL n)):=⟨Ea⟩
def wX (f:aC->aB->Int->Option (aB × aC)):Prop:=∀a0 a1 a2 r,f a0 a1 a2=some r->∀(q:Pa) (m:M) (vs:List V) (P0:Pa),vs.map V.weak1=[.ptr P0 0,.agg ((aB.C a1)),.li a2]/\m.blk P0=some ((aC.C a0))/\m.gl 2=.eptr [(cA cS cT)] 0 0/\m.gl 6=.eptr [(cA (cA cS) dM)] 0 0->SC prog 154 vs q m (λv Y=>v=.agg ((aB.C r.1))/\Y=(m.set P0 ((aC.C r.2))))
theorem Dg (n:Nat):wX (lA n):=λa0 a1 a2 r h q m vs P0 ⟨hv,hmP0,_,_⟩=>SC.wva hv (SC.ac hmP0 λ_ _ _=>fF func154 call154 ntmps154 results154 rfl (wk .z q m (lA.eq_1 _ _ _ _) h))
instance:rX 154 (∀n,wX (lA n)):=⟨Dg⟩
def Cu (f:aC->Int->Option (aB × aC)):Prop:=∀a0 a1 r,f a0 a1=some r->∀(q:Pa) (m:M) (vs:List V) (P0:Pa) (P1:Pa) (P2:Pa),vs.map V.weak1=[.ptr P1 0,.ptr P2 0]/\m.blk P0=some ((aC.C a0))/\m.blk P1=some ([.ptr P0 0])/\m.blk P2=some ([.li a1])/\(P0=P1)=False/\(P0=P2)=False/\(P1=P0)=False/\(P1=P2)=False/\(P2=P0)=False/\(P2=P1)=False/\m.gl 2=.eptr [(cA cS cT)] 0 0/\m.gl 6=.eptr [(cA (cA cS) dM)] 0 0->SC prog 177 vs q m (λv Y=>v=.agg ((aB.C r.1))/\Y=(m.set P0 ((aC.C r.2))))
theorem Bw (n:Nat):Cu (nO n):=λa0 a1 r h q m vs P0 P1 P2 ⟨hv,hmP0,hmP1,hmP2,_,_,_,_,_,_,_,_⟩=>SC.wva hv (SC.ac hmP0 λ_ _ _=>SC.ac hmP1 λ_ _ _=>SC.ac hmP2 λ_ _ _=>fF func177 call177 ntmps177 results177 rfl (wk .z q m (nO.eq_1 _ _ _) h))
def sJ (f:aC->Int->Option ((List aB) × aC)):Prop:=∀a0 a1 r,f a0 a1=some r->∀(q:Pa) (m:M) (vs:List V) (P0:Pa) (P1:Pa) (P2:Pa),vs.map V.weak1=[.ptr P0 0,.fn (.func 177) [] [.ptr P1 0,.ptr P2 0]]/\m.blk P0=some ((aC.C a0))/\m.blk P1=some ([.ptr P0 0])/\m.blk P2=some ([.li a1])/\(P0=P1)=False/\(P0=P2)=False/\(P1=P0)=False/\(P1=P2)=False/\(P2=P0)=False/\(P2=P1)=False/\m.gl 2=.eptr [(cA cS cT)] 0 0/\m.gl 6=.eptr [(cA (cA cS) dM)] 0 0->SC prog 83 vs q m (λv Y=>v=.list .none (r.1.map aB.C)/\Y=(m.set P0 ((aC.C r.2))))
theorem xQ (n:Nat):sJ (iS n):=by
 rintro a0 a1 r h q m vs P0 P1 P2 ⟨hv,hmP0,hmP1,hmP2,hn0_1,hn0_2,hn1_0,hn1_2,hn2_0,hn2_1,hg2,hg6⟩;refine SC.wv hv ?_;refine SC.apart hmP0 λhpP0=>?_;refine SC.apart hmP1 λhpP1=>?_;refine SC.apart hmP2 λhpP2=>?_;have l0:=pF hmP0
 try simp only [go_sem] at hmP0 l0
 skip
 try simp only [go_sem,seval] at hmP2
 refine oE func83 call83 ntmps83 results83 ?_;unfold iS at h;refine bC ?_;refine bC ?_;refine aN ?_;obtain ⟨x1,h2,h⟩:=aD h;refine bX λ_ z=>?_;simp only [go_sem,seval];refine SC.bA (nP n a0 ([40]:cQ) _ h2 _ _ _ P0) ?_;simp only [go_sem,seval];apply z;refine aN (aN ?_);obtain ⟨x3,h4,h⟩:=aD h;refine bX λ_ z=>?_;simp only [go_sem,seval];refine SC.bA (nL n x1 ([41]:cQ) _ h4 _ _ _ P0) ?_;simp only [go_sem,seval];apply z;refine cY h (λc5 h=>?_) (λc5 h=>?_)
 ·refine bC ?_;refine cB ?_
  try simp only [cE]
  cases h;exact jS
 ·refine bL ?_
  refine aN ?_;obtain ⟨y6,j6,h⟩:=aD h;refine rE 8 (λX Y=>∃(oy6_5:Pa) (jy6_5:Nat),X 0=.ptr P0 0/\X 5=.list (.st (.anon oy6_5 jy6_5)) (y6.1.map aB.C)/\Y.tok oy6_5 jy6_5=true/\q <:+ oy6_5/\Y.blk P0=some ((aC.C y6.2))/\Y.blk P1=some ([.ptr P0 0])/\Y.blk P2=some ([.li a1])/\Y.gl=m.gl/\m.back q Y=(m.set P0 ((aC.C y6.2)))) ?_ ?_
  ·refine cK ?_;obtain ⟨y10,j10,j6⟩:=aD j6;refine zU 5 ([].map aB.C) rfl (by simp only [go_sem,seval,c5]) ?_;refine rG (λc X Y=>∃v8 v9 o_v8 j_v8,gW n a1 c v8 v9=some y10/\X 0=.ptr P0 0/\X 1=.fn (.func 177) [] [.ptr P1 0,.ptr P2 0]/\X 5=.list (.st (.anon o_v8 j_v8)) (v8.map aB.C)/\Y.tok o_v8 j_v8=true/\q <:+ o_v8/\Y.blk P0=some ((aC.C v9))/\Y.blk P1=some ([.ptr P0 0])/\Y.blk P2=some ([.li a1])/\Y.gl=m.gl/\m.back q Y=(m.set P0 ((aC.C v9)))) n ⟨[],x3.2,(6::q),0,j10,?_⟩ ?_
   ·simp only [go_sem,seval,bZ,bG,dW hpP0,hn1_0,hn2_0,c5,hmP1,hmP2]
   rintro i7 c11 E12 m13 ⟨v8,v9,o_v8,j_v8,j10,e14⟩ _
   rcases c11 with _ | c11
   ·cases j10
   rw [gW] at j10;refine aN (bC ?_);refine cY j10 (λc15 j10=>?_) (λc15 j10=>?_)
   ·refine bL ?_
    refine cK (aN ?_);obtain ⟨x16,h17,j10⟩:=aD j10;obtain ⟨f18,j10⟩:=bN j10;have f19:v8.length+1<=1073741824:=by first | omega | (simp only [nB,jJ,mO] at f18 ⊢;omega)
    have f20:v8.length<=1073741823:=by first | omega | (simp only [nB,jJ,mO] at f18 ⊢;omega)
    refine bX λ_ z=>?_;simp only [go_sem,seval,c15,e14];refine SC.by_ (Bw n v9 a1 _ h17 _ _ _ P0 P1 P2 (by simp only [go_sem,hn0_1,hn0_2,hn1_0,hn1_2,hn2_0,hn2_1,e14,hg2,hg6])) ?_;simp only [go_sem,seval,f19,e14];apply z;refine aN ?_;obtain ⟨x21,h22,j10⟩:=aD j10;refine bX λ_ z=>?_;simp only [go_sem,seval,e14];refine SC.bA (nL n x16.2 ([44]:cQ) _ h22 _ _ _ P0) ?_;simp only [go_sem,seval];apply z;refine cY j10 (λc23 j10=>?_) (λc23 j10=>?_)
    ·refine gE ?_
     try simp only [seval,cV,cM,aR]
     cases j10;cases j6;refine ⟨zb,(9::i7::7::q),0,?_⟩;simp only [go_sem,seval,bZ,dW hpP0,hn1_0,hn2_0,c23,e14]
    ·refine bL ?_
     try simp only [aR,bJ]
     refine ⟨c11,EO _,(v8++[x16.1]),x21.2,(9::i7::7::q),0,j10,?_⟩;simp only [go_sem,seval,bZ,dW hpP0,hn1_0,hn2_0,c23,e14]
   ·refine gE ?_
    try simp only [cV,cM,↓reduceIte,aR]
    cases j10;cases j6;refine ⟨zb,o_v8,j_v8,?_⟩;simp only [go_sem,seval,c15,e14]
  ·rintro E24 m25 ⟨oy6_5,jy6_5,e26⟩ _;refine aN ?_;obtain ⟨x27,h28,h⟩:=aD h;refine bX λ_ z=>?_;simp only [go_sem,seval,e26];refine SC.bA (nP n y6.2 ([41]:cQ) _ h28 _ _ _ P0) ?_;simp only [go_sem,seval];apply z;refine bC ?_;refine cB ?_;cases h;exact jS
def wV (f:aC->aB->Int->Option (aB × aC)):Prop:=∀a0 a1 a2 r,f a0 a1 a2=some r->∀(q:Pa) (m:M) (vs:List V) (P0:Pa),vs.map V.weak1=[.ptr P0 0,.agg ((aB.C a1)),.li a2]/\m.blk P0=some ((aC.C a0))/\m.gl 2=.eptr [(cA cS cT)] 0 0/\m.gl 6=.eptr [(cA (cA cS) dM)] 0 0->SC prog 158 vs q m (λv Y=>v=.agg ((aB.C r.1))/\Y=(m.set P0 ((aC.C r.2))))
theorem De (n:Nat):wV (mQ n):=λa0 a1 a2 r h q m vs P0 ⟨hv,hmP0,_,_⟩=>SC.wva hv (SC.ac hmP0 λ_ _ _=>haveI:rX 83 (∀n,sJ (iS n)):=⟨xQ⟩;fF func158 call158 ntmps158 results158 rfl (wk (.j 1 0 37 [.b 0 aC λy=>(aC.C y),.b 4 aB λy=>(aB.C y)] [0,3,4,6] [3,6] [(4,4)] none .z .z) q m (mQ.eq_1 _ _ _ _) h))
instance:rX 158 (∀n,wV (mQ n)):=⟨De⟩
def iU (f:aC->Int->Option (aB × aC)):Prop:=∀a0 a1 r,f a0 a1=some r->∀(q:Pa) (m:M) (vs:List V) (P0:Pa),vs.map V.weak1=[.ptr P0 0,.li a1]/\m.blk P0=some ((aC.C a0))/\m.gl 2=.eptr [(cA cS cT)] 0 0/\m.gl 6=.eptr [(cA (cA cS) dM)] 0 0->SC prog 85 vs q m (λv Y=>v=.agg ((aB.C r.1))/\Y=(m.set P0 ((aC.C r.2))))
def nM (f:aC->Int->Option (aB × aC)):Prop:=∀a0 a1 r,f a0 a1=some r->∀(q:Pa) (m:M) (vs:List V) (P0:Pa),vs.map V.weak1=[.ptr P0 0,.li a1]/\m.blk P0=some ((aC.C a0))/\m.gl 2=.eptr [(cA cS cT)] 0 0/\m.gl 6=.eptr [(cA (cA cS) dM)] 0 0->SC prog 127 vs q m (λv Y=>v=.agg ((aB.C r.1))/\Y=(m.set P0 ((aC.C r.2))))
def pS (f:aC->aB->Int->Option (aB × aC)):Prop:=∀a0 a1 a2 r,f a0 a1 a2=some r->∀(q:Pa) (m:M) (vs:List V) (P0:Pa),vs.map V.weak1=[.ptr P0 0,.agg ((aB.C a1)),.li a2]/\m.blk P0=some ((aC.C a0))/\m.gl 2=.eptr [(cA cS cT)] 0 0/\m.gl 6=.eptr [(cA (cA cS) dM)] 0 0->SC prog 156 vs q m (λv Y=>v=.agg ((aB.C r.1))/\Y=(m.set P0 ((aC.C r.2))))
def rB (f:aC->aB->Int->Option (aB × aC)):Prop:=∀a0 a1 a2 r,f a0 a1 a2=some r->∀(q:Pa) (m:M) (vs:List V) (P0:Pa),vs.map V.weak1=[.ptr P0 0,.agg ((aB.C a1)),.li a2]/\m.blk P0=some ((aC.C a0))/\m.gl 2=.eptr [(cA cS cT)] 0 0/\m.gl 6=.eptr [(cA (cA cS) dM)] 0 0->SC prog 157 vs q m (λv Y=>v=.agg ((aB.C r.1))/\Y=(m.set P0 ((aC.C r.2))))
theorem By {fM} (zL:nM fM) (n:Nat):iU (nR fM n):=haveI:rX 127 (nM fM):=⟨zL⟩;λa0 a1 r h q m vs P0 ⟨hv,hmP0,_,_⟩=>SC.wva hv (SC.ac hmP0 λ_ _ _=>fF func85 call85 ntmps85 results85 rfl (wk (.l [.b 0 aC λy=>(aC.C y),.b 5 aB λy=>[.li y.bF,.li y.fV,.ls y.dL,.lw y.nY,.list .self (y.aM.map aB.C)]] [0,1,4,5] [4] [] none (.j 2 4 10 [.v 22 Bool λy=>.lb y] [0,1,4,5] [0,4,5] [] none .z .z) .z) q m (nR.eq_1 _ _ _ _) h))
theorem zF {lP} (Bl:pS lP) {mP} (CX:rB mP) (n:Nat):nM (kY lP mP n):=haveI:rX 156 (pS lP):=⟨Bl⟩;haveI:rX 157 (rB mP):=⟨CX⟩;λa0 a1 r h q m vs P0 ⟨hv,hmP0,_,_⟩=>SC.wva hv (SC.ac hmP0 λ_ _ _=>fF func127 call127 ntmps127 results127 rfl (wk (.j 11 0 26 [.b 0 aC λy=>(aC.C y),.b 5 aB λy=>[.li y.bF,.li y.fV,.ls y.dL,.lw y.nY,.list .self (y.aM.map aB.C)]] [0,4,5] [4] [] none .z .z) q m (kY.eq_1 _ _ _ _ _) h))
theorem AQ {dX} (rN:iU dX) (n:Nat):pS (mS dX n):=haveI:rX 85 (iU dX):=⟨rN⟩;λa0 a1 a2 r h q m vs P0 ⟨hv,hmP0,_,_⟩=>SC.wva hv (SC.ac hmP0 λ_ _ _=>fF func156 call156 ntmps156 results156 rfl (wk .z q m (mS.eq_1 _ _ _ _ _) h))
theorem Cx {dX} (rN:iU dX) (n:Nat):rB (oO dX n):=haveI:rX 85 (iU dX):=⟨rN⟩;λa0 a1 a2 r h q m vs P0 ⟨hv,hmP0,_,_⟩=>SC.wva hv (SC.ac hmP0 λ_ _ _=>fF func157 call157 ntmps157 results157 rfl (wk .z q m (oO.eq_1 _ _ _ _ _) h))
theorem tZ:∀n,iU (eS n)/\nM (Ct n)/\pS (EH n)/\rB (Gl n)
 | 0=>⟨λ_ _ _ h=>eO h,λ_ _ _ h=>eO h,λ_ _ _ _ h=>eO h,λ_ _ _ _ h=>eO h⟩
 | n+1=>
   have ih:=tZ n
   ⟨By ih.2.1 n,zF ih.2.2.1 ih.2.2.2 n,AQ ih.1 n,Cx ih.1 n⟩
theorem Dh (n:Nat):iU (eS n):=(tZ n).1
instance:rX 85 (∀n,iU (eS n)):=⟨Dh⟩
def uR (f:aC->Option (aB × aC)):Prop:=∀a0 r,f a0=some r->∀(q:Pa) (m:M) (vs:List V) (P0:Pa),vs.map V.weak1=[.ptr P0 0]/\m.blk P0=some ((aC.C a0))/\m.gl 2=.eptr [(cA cS cT)] 0 0/\m.gl 6=.eptr [(cA (cA cS) dM)] 0 0->SC prog 52 vs q m (λv Y=>v=.agg ((aB.C r.1))/\Y=(m.set P0 ((aC.C r.2))))
theorem AP (n:Nat):uR (kO n):=λa0 r h q m vs P0 ⟨hv,hmP0,_,_⟩=>SC.wva hv (SC.ac hmP0 λ_ _ _=>haveI:rX 83 (∀n,tI (gL n)):=⟨zH⟩;fF func52 call52 ntmps52 results52 rfl (wk .z q m (kO.eq_1 _ _) h))
instance:rX 52 (∀n,uR (kO n)):=⟨AP⟩
def Ku (f:cQ->Option (aB × Int × Int)):Prop:=∀a0 r,f a0=some r->∀(q:Pa) (m:M) (vs:List V),vs.map V.weak1=[.list .none (pK a0)]/\m.gl 1=.eptr [(cA cS gO)] 0 0/\m.gl 2=.eptr [(cA cS cT)] 0 0/\m.gl 6=.eptr [(cA (cA cS) dM)] 0 0->SC prog 25 vs q m (λv Y=>v=.tup [.agg ((aB.C r.1)),.li r.2.1,.li r.2.2]/\Y=m)
theorem Js (n:Nat):Ku (zE n):=λa0 r h q m vs ⟨hv,_,_,_⟩=>SC.wva hv (fF func25 call25 ntmps25 results25 rfl (wk (.c .z (.l [.b 8 aC λy=>(aC.C y),.b 9 aB λy=>[.li y.bF,.li y.fV,.ls y.dL,.lw y.nY,.list .self (y.aM.map aB.C)]] [2,8,9] [2] [] none (.j 2 6 11 [.v 36 Bool λy=>.lb y] [2,8,9] [2,8,9] [] none .z .z) .z)) q m (zE.eq_1 _ _) h))
def xC (f:aG->aH->Int->Int->Option aH):Prop:=∀a0 a1 a2 a3 r,f a0 a1 a2 a3=some r->∀(q:Pa) (m:M) (vs:List V) (P0:Pa) (F0 fp0 S0 C0:V),vs.map V.weak1=[.ptr P0 0,.li a2,.li a3]/\m.blk P0=some (pZ F0 fp0 S0 C0 a0 a1)/\fA F0 fp0 S0 C0 m.hp a0->SC prog 61 vs q m (λv Y=>v=.tup []/\Y=(m.set P0 (pZ F0 fp0 S0 C0 a0 r)))
theorem Dq:xC (pG):=λa0 a1 a2 a3 r h q m vs P0 F0 fp0 S0 C0 ⟨hv,hmP0,t0⟩=>SC.wva hv (SC.ac hmP0 λ_ _ _=>fF func61 call61 ntmps61 results61 rfl (wk .z q m (pG.eq_1 _ _ _ _) h))
instance:rX 61 (xC pG):=⟨Dq⟩
def wY (f:aG->aH->Bool->Int->Int->Option aH):Prop:=∀a0 a1 a2 a3 a4 r,f a0 a1 a2 a3 a4=some r->∀(q:Pa) (m:M) (vs:List V) (P0:Pa) (F0 fp0 S0 C0:V),vs.map V.weak1=[.ptr P0 0,.lb a2,.li a3,.li a4]/\m.blk P0=some (pZ F0 fp0 S0 C0 a0 a1)/\fA F0 fp0 S0 C0 m.hp a0->SC prog 29 vs q m (λv Y=>v=.tup []/\Y=(m.set P0 (pZ F0 fp0 S0 C0 a0 r)))
theorem bM:wY (aT):=λa0 a1 a2 a3 a4 r h q m vs P0 F0 fp0 S0 C0 ⟨hv,hmP0,t0⟩=>SC.wva hv (SC.ac hmP0 λ_ _ _=>fF func29 call29 ntmps29 results29 rfl (wk .z q m (aT.eq_1 _ _ _ _ _) h))
instance:rX 29 (wY aT):=⟨bM⟩
