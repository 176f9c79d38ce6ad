import Derived.Test.YtnnomaboaiokeaaGreatDoorGH4
import Derived.Test.YtnnomaboaiokeaaGreatDoorGAw
namespace Go.Proofs.YtnnomaboaiokeaaGreatDoor.Abs
open Go.RowKit Tryz
open IntKind (i64 u32 u64 u8)
set_option linter.all false
set_option maxRecDepth 10000
set_option maxHeartbeats 2000000
open Tryz
instance:Lj bJ.C 2:=⟨λx=>by rw [bJ.C_eq];rfl⟩
instance:Lj bZ.C 2:=⟨λx=>by rw [bZ.C_eq];rfl⟩
instance:Sp eY 26:=⟨by decide⟩
instance:Sp cM 5:=⟨by decide⟩
instance:Sp dR 15:=⟨by decide⟩
def ID (f:Int->Option Bool):Prop:=∀a0 r,f a0=some r->BV prog 146 [.lit (.int .u8 a0)] (.lb r)
theorem Mm:ID (Bh):=λa0 r h q m vs hv=>SC.wva hv (dB func146 call146 ntmps146 results146 rfl (wk (.j 2 1 16 [.v 2 Bool λy=>.lb y] [] [] [] none .z .z) q m (Bh.eq_1 _) h))
instance:nO 146 (ID Bh):=⟨Mm⟩
def sD (f:cJ->cJ->Option Bool):Prop:=∀a0 a1 r,f a0 a1=some r->BV prog 173 [.ls a0,.ls a1] (.lb r)
theorem xC:sD (eZ):=λa0 a1 r h q m vs hv=>SC.wva hv (dB func173 call173 ntmps173 results173 rfl (wk (.j 2 1 15 [.v 4 Bool λy=>.lb y] [] [] [] none .z .z) q m (eZ.eq_1 _ _) h))
instance:nO 173 (sD eZ):=⟨xC⟩
def AJ (f:cJ->cJ->Option Bool):Prop:=∀a0 a1 r,f a0 a1=some r->BV prog 147 [.ls a0,.ls a1] (.lb r)
theorem Fp:AJ (nT):=λa0 a1 r h q m vs hv=>SC.wva hv (dB func147 call147 ntmps147 results147 rfl (wk .z q m (nT.eq_1 _ _) h))
instance:nO 147 (AJ nT):=⟨Fp⟩
def rE (f:cJ->Int->Option Int):Prop:=∀a0 a1 r,f a0 a1=some r->BV prog 197 [.ls a0,.lit (.int .u8 a1)] (.li r)
theorem vL:rE oI:=by
 intro a0 a1 r h q m vs hv;refine SC.weak ?_;rw [hv];cases h;intro c xs w h1 h2 h3;obtain ⟨x,xs,rfl,k1,k2⟩:=h2.uncons;obtain ⟨y,rfl,k3⟩:=k2.inv_one;obtain rfl:=k1.inv_lit;obtain rfl:=k3.inv_lit;refine .inr ⟨.int .i64 (Lib.indexByte a0 a1.toNat.toUInt8),w,?_,_,c,_,m,rfl,⟨rfl,rfl⟩,h1,.refl q c m w,.lit .nil⟩;rw [run_callFunc_extern (fn:=f197) (e:=Extern.BytealgIndexByte.indexByte) func197 (by kernel_rfl) (by kernel_rfl) (by kernel_rfl) (by rfl)];have:=Lib.run_indexByteString (P:=prog) (bs a0) a1 w;rw [this];rfl
instance:nO 197 (rE oI):=⟨vL⟩
def sC (f:cJ->Int->Option Int):Prop:=∀a0 a1 r,f a0 a1=some r->BV prog 174 [.ls a0,.lit (.int .u8 a1)] (.li r)
theorem xB:sC (lS):=λa0 a1 r h q m vs hv=>SC.wva hv (dB func174 call174 ntmps174 results174 rfl (wk .z q m (lS.eq_1 _ _) h))
instance:nO 174 (sC lS):=⟨xB⟩
def AI (f:cJ->Int->Option Int):Prop:=∀a0 a1 r,f a0 a1=some r->BV prog 148 [.ls a0,.lit (.int .u8 a1)] (.li r)
theorem Fo:AI (nS):=λa0 a1 r h q m vs hv=>SC.wva hv (dB func148 call148 ntmps148 results148 rfl (wk .z q m (nS.eq_1 _ _) h))
instance:nO 148 (AI nS):=⟨Fo⟩
def JW (f:cJ->Int->Option Int):Prop:=∀a0 a1 r,f a0 a1=some r->BV prog 115 [.ls a0,.li a1] (.li r)
theorem NM (n:Nat):JW (BG n):=λa0 a1 r h q m vs hv=>SC.wva hv (dB func115 call115 ntmps115 results115 rfl (wk (.l [.v 1 Int λy=>.li y] [0] [] [] none .z .z) q m (BG.eq_1 _ _ _) h))
instance:nO 115 (∀n,JW (BG n)):=⟨NM⟩
def Hy (f:Int->Option Bool):Prop:=∀a0 r,f a0=some r->BV prog 150 [.lit (.int .u8 a0)] (.lb r)
theorem KW:Hy (wC):=λa0 r h q m vs hv=>SC.wva hv (dB func150 call150 ntmps150 results150 rfl (wk (.j 2 1 12 [.v 2 Bool λy=>.lb y] [] [] [] none .z .z) q m (wC.eq_1 _) h))
instance:nO 150 (Hy wC):=⟨KW⟩
def IE (f:Int->Option Bool):Prop:=∀a0 r,f a0=some r->BV prog 151 [.lit (.int .u8 a0)] (.lb r)
theorem Mn:IE (zL):=λa0 r h q m vs hv=>SC.wva hv (dB func151 call151 ntmps151 results151 rfl (wk (.j 2 1 8 [.v 2 Bool λy=>.lb y] [] [] [] none .z .z) q m (zL.eq_1 _) h))
instance:nO 151 (IE zL):=⟨Mn⟩
def JV (f:cJ->Option cJ):Prop:=∀a0 r,f a0=some r->BV prog 149 [.ls a0] (.ls r)
theorem NL (n:Nat):JV (DS n):=λa0 r h q m vs hv=>SC.wva hv (dB func149 call149 ntmps149 results149 rfl (wk (.l [.v 6 Int λy=>.li y] [0,5] [] [] none (.c (.j 2 4 15 [.v 20 Bool λy=>.lb y] [0,3,5,6] [] [] none .z .z) .z) .z) q m (DS.eq_1 _ _) h))
instance:nO 149 (∀n,JV (DS n)):=⟨NL⟩
def sE (f:cJ->cJ->Option (cJ × Bool)):Prop:=∀a0 a1 r,f a0 a1=some r->BV prog 198 [.ls a0,.ls a1] (.tup [.ls r.1,.lb r.2])
theorem xD:sE (iT):=λa0 a1 r h q m vs hv=>SC.wva hv (dB func198 call198 ntmps198 results198 rfl (wk .z q m (iT.eq_1 _ _) h))
instance:nO 198 (sE iT):=⟨xD⟩
def AK (f:cJ->cJ->Option (cJ × Bool)):Prop:=∀a0 a1 r,f a0 a1=some r->BV prog 175 [.ls a0,.ls a1] (.tup [.ls r.1,.lb r.2])
theorem Fq:AK (pU):=λa0 a1 r h q m vs hv=>SC.wva hv (dB func175 call175 ntmps175 results175 rfl (wk .z q m (pU.eq_1 _ _) h))
instance:nO 175 (AK pU):=⟨Fq⟩
def IC (f:cJ->Option (Int × Bool)):Prop:=∀a0 r,f a0=some r->BV prog 152 [.ls a0] (.tup [.lw r.1,.lb r.2])
theorem Ml (n:Nat):IC (Bg n):=λa0 r h q m vs hv=>SC.wva hv (dB func152 call152 ntmps152 results152 rfl (wk (.c (.l [.v 7 Int λy=>.li y,.v 19 Int λy=>.li y] [0,4,18] [] [] none (.c (.j 2 11 22 [.v 38 Bool λy=>.lb y] [0,4,7,18,19] [] [] none .z .z) .z) .z) (.l [.v 7 Int λy=>.li y,.v 19 Int λy=>.li y] [0,4,18] [] [] none (.c (.j 2 11 22 [.v 38 Bool λy=>.lb y] [0,4,7,18,19] [] [] none .z .z) .z) .z)) q m (Bg.eq_1 _ _) h))
instance:nO 152 (∀n,IC (Bg n)):=⟨Ml⟩
def JX (f:cJ->Option cJ):Prop:=∀a0 r,f a0=some r->∀(q:Pa) (m:M) (vs:List V),vs.map V.weak1=[.ls a0]/\m.gl 3=.eptr [(cA cS eY)] 0 0->SC prog 153 vs q m (λv Y=>v=.ls r/\Y=m)
theorem NN (n:Nat):JX (DT n):=λa0 r h q m vs ⟨hv,_⟩=>SC.wva hv (dB func153 call153 ntmps153 results153 rfl (wk (.l [.v 6 Int λy=>.li y] [0,5] [] [] none .z .z) q m (DT.eq_1 _ _) h))
instance:nO 153 (∀n,JX (DT n)):=⟨NN⟩
def JZ (f:cJ->Int->Option (dH × Int)):Prop:=∀a0 a1 r,f a0 a1=some r->∀(q:Pa) (m:M) (vs:List V),vs.map V.weak1=[.ls a0,.li a1]/\m.gl 3=.eptr [(cA cS eY)] 0 0->SC prog 116 vs q m (λv Y=>v=.tup [.agg ((dH.C r.1)),.li r.2]/\Y=m)
theorem NO (n:Nat):JZ (DU n):=λa0 a1 r h q m vs ⟨hv,_⟩=>SC.wva hv (dB func116 call116 ntmps116 results116 rfl (wk .z q m (DU.eq_1 _ _ _) h))
instance:nO 116 (∀n,JZ (DU n)):=⟨NO⟩
def Hx (f:cJ->Option ((List dH) × Int × Int)):Prop:=∀a0 r,f a0=some r->∀(q:Pa) (m:M) (vs:List V),vs.map V.weak1=[.list .none (pT a0)]/\m.gl 3=.eptr [(cA cS eY)] 0 0->SC prog 84 vs q m (λv Y=>v=.tup [.list .none (r.1.map dH.C),.li r.2.1,.li r.2.2]/\Y=m)
theorem KV (n:Nat):Hx (zK n):=λa0 r h q m vs ⟨hv,_⟩=>SC.wva hv (dB func84 call84 ntmps84 results84 rfl (wk (.c .z (.s 6 (.l [.o 6 (List dH) λy=>(y.map dH.C),.v 7 Int λy=>.li y] [5] [] [] none .z .z))) q m (zK.eq_1 _ _) h))
instance:nO 84 (∀n,Hx (zK n)):=⟨KV⟩
def xJ (f:aE->Option dH):Prop:=∀a0 r,f a0=some r->∀(q:Pa) (m:M) (vs:List V) (P0:Pa),vs.map V.weak1=[.ptr P0 0]/\m.blk P0=some ((aE.C a0))->SC prog 86 vs q m (λv Y=>v=.agg ((dH.C r))/\Y=m)
theorem Dz:xJ (dI):=λa0 r h q m vs P0 ⟨hv,hmP0⟩=>SC.wva hv (SC.ac hmP0 λ_ _ _=>dB func86 call86 ntmps86 results86 rfl (wk .z q m (dI.eq_1 _) h))
instance:nO 86 (xJ dI):=⟨Dz⟩
def yX (f:aE->Int->Option aE):Prop:=∀a0 a1 r,f a0 a1=some r->∀(q:Pa) (m:M) (vs:List V) (P0:Pa),vs.map V.weak1=[.ptr P0 0,.li a1]/\m.blk P0=some ((aE.C a0))->SC prog 117 vs q m (λv Y=>v=.tup []/\Y=(m.set P0 ((aE.C r))))
theorem Ex:yX (gO):=λa0 a1 r h q m vs P0 ⟨hv,hmP0⟩=>SC.wva hv (SC.ac hmP0 λ_ _ _=>dB func117 call117 ntmps117 results117 rfl (wk .z q m (gO.eq_1 _ _) h))
instance:nO 117 (yX gO):=⟨Ex⟩
def yU (f:aE->Int->Option (aD × aE)):Prop:=∀a0 a1 r,f a0 a1=some r->∀(q:Pa) (m:M) (vs:List V) (P0:Pa),vs.map V.weak1=[.ptr P0 0,.li a1]/\m.blk P0=some ((aE.C a0))->SC prog 85 vs q m (λv Y=>∃(id:Pa) (j:Nat),q <:+ id/\v=.agg ([.li r.1.bS,.li r.1.fB,.ls r.1.cZ,.lw r.1.oL,.list (.st (.anon id j)) (r.1.aP.map aD.C)])/\Y=(m.set P0 ((aE.C r.2))).tokset id j true)
theorem Eu:yU (eM):=λa0 a1 r h q m vs P0 ⟨hv,hmP0⟩=>SC.wva hv (SC.ac hmP0 λ_ _ _=>SC_vo func85 call85 ntmps85 results85 4 rfl λ_=>wk .z q m (eM.eq_1 _ _) h)
instance:nO 85 (yU eM):=⟨Eu⟩
def sQ (f:(List cJ)->cJ->Option Int):Prop:=∀a0 a1 r,f a0 a1=some r->BV prog 199 [.list .none (a0.map cS),.ls a1] (.li r)
theorem yL (n:Nat):sQ (jY n):=λa0 a1 r h q m vs hv=>SC.wva hv (dB func199 call199 ntmps199 results199 rfl (wk (.l [.v 8 Int λy=>.li y] [0,1,7] [] [] none .z .z) q m (jY.eq_1 _ _ _) h))
instance:nO 199 (∀n,sQ (jY n)):=⟨yL⟩
def rL (f:(List cJ)->cJ->Option Bool):Prop:=∀a0 a1 r,f a0 a1=some r->BV prog 176 [.list .none (a0.map cS),.ls a1] (.lb r)
theorem wA (n:Nat):rL (iK n):=λa0 a1 r h q m vs hv=>SC.wva hv (dB func176 call176 ntmps176 results176 rfl (wk .z q m (iK.eq_1 _ _ _) h))
instance:nO 176 (∀n,rL (iK n)):=⟨wA⟩
def Hw (f:cJ->Option Bool):Prop:=∀a0 r,f a0=some r->∀(q:Pa) (m:M) (vs:List V),vs.map V.weak1=[.ls a0]/\m.gl 4=.eptr [(cA cS cF)] 0 0->SC prog 155 vs q m (λv Y=>v=.lb r/\Y=m)
theorem KR (n:Nat):Hw (wB n):=λa0 r h q m vs ⟨hv,_⟩=>SC.wva hv (dB func155 call155 ntmps155 results155 rfl (wk .z q m (wB.eq_1 _ _) h))
instance:nO 155 (∀n,Hw (wB n)):=⟨KR⟩
def AM (f:aE->cJ->Option Bool):Prop:=∀a0 a1 r,f a0 a1=some r->∀(q:Pa) (m:M) (vs:List V) (P0:Pa),vs.map V.weak1=[.ptr P0 0,.ls a1]/\m.blk P0=some ((aE.C a0))/\m.gl 4=.eptr [(cA cS cF)] 0 0->SC prog 154 vs q m (λv Y=>v=.lb r/\Y=m)
theorem Aj (n:Nat):AM (iV n):=λa0 a1 r h q m vs P0 ⟨hv,hmP0,_⟩=>SC.wva hv (SC.ac hmP0 λ_ _ _=>dB func154 call154 ntmps154 results154 rfl (wk (.j 2 2 31 [.v 4 Bool λy=>.lb y] [0] [0] [] none .z .z) q m (iV.eq_1 _ _ _) h))
instance:nO 154 (∀n,AM (iV n)):=⟨Aj⟩
def yQ (f:aE->cJ->Option (Bool × aE)):Prop:=∀a0 a1 r,f a0 a1=some r->∀(q:Pa) (m:M) (vs:List V) (P0:Pa),vs.map V.weak1=[.ptr P0 0,.ls a1]/\m.blk P0=some ((aE.C a0))/\m.gl 4=.eptr [(cA cS cF)] 0 0->SC prog 118 vs q m (λv Y=>v=.lb r.1/\Y=(m.set P0 ((aE.C r.2))))
theorem nW (n:Nat):yQ (bW n):=λa0 a1 r h q m vs P0 ⟨hv,hmP0,_⟩=>SC.wva hv (SC.ac hmP0 λ_ _ _=>dB func118 call118 ntmps118 results118 rfl (wk .z q m (bW.eq_1 _ _ _) h))
instance:nO 118 (∀n,yQ (bW n)):=⟨nW⟩
def yV (f:aE->cJ->Option aE):Prop:=∀a0 a1 r,f a0 a1=some r->∀(q:Pa) (m:M) (vs:List V) (P0:Pa),vs.map V.weak1=[.ptr P0 0,.ls a1]/\m.blk P0=some ((aE.C a0))/\m.gl 4=.eptr [(cA cS cF)] 0 0->SC prog 119 vs q m (λv Y=>v=.tup []/\Y=(m.set P0 ((aE.C r))))
theorem nZ (n:Nat):yV (bQ n):=λa0 a1 r h q m vs P0 ⟨hv,hmP0,_⟩=>SC.wva hv (SC.ac hmP0 λ_ _ _=>dB func119 call119 ntmps119 results119 rfl (wk .z q m (bQ.eq_1 _ _ _) h))
instance:nO 119 (∀n,yV (bQ n)):=⟨nZ⟩
def yW (f:aE->Option (cJ × aE)):Prop:=∀a0 r,f a0=some r->∀(q:Pa) (m:M) (vs:List V) (P0:Pa),vs.map V.weak1=[.ptr P0 0]/\m.blk P0=some ((aE.C a0))/\m.gl 4=.eptr [(cA cS cF)] 0 0->SC prog 120 vs q m (λv Y=>v=.ls r.1/\Y=(m.set P0 ((aE.C r.2))))
theorem Ew (n:Nat):yW (eA n):=λa0 r h q m vs P0 ⟨hv,hmP0,_⟩=>SC.wva hv (SC.ac hmP0 λ_ _ _=>dB func120 call120 ntmps120 results120 rfl (wk (.j 2 2 20 [.v 20 Bool λy=>.lb y] [0,3] [0,3] [] none .z .z) q m (eA.eq_1 _ _) h))
instance:nO 120 (∀n,yW (eA n)):=⟨Ew⟩
def wL (f:aE->Option (Int × aE)):Prop:=∀a0 r,f a0=some r->∀(q:Pa) (m:M) (vs:List V) (P0:Pa),vs.map V.weak1=[.ptr P0 0]/\m.blk P0=some ((aE.C a0))->SC prog 177 vs q m (λv Y=>v=.lw r.1/\Y=(m.set P0 ((aE.C r.2))))
theorem CY:wL (kJ):=λa0 r h q m vs P0 ⟨hv,hmP0⟩=>SC.wva hv (SC.ac hmP0 λ_ _ _=>dB func177 call177 ntmps177 results177 rfl (wk (.j 2 2 15 [.v 15 Bool λy=>.lb y] [0,3] [0,3] [] none .z .z) q m (kJ.eq_1 _) h))
instance:nO 177 (wL kJ):=⟨CY⟩
def yR (f:aE->Option (Int × aE)):Prop:=∀a0 r,f a0=some r->∀(q:Pa) (m:M) (vs:List V) (P0:Pa),vs.map V.weak1=[.ptr P0 0]/\m.blk P0=some ((aE.C a0))/\m.gl 4=.eptr [(cA cS cF)] 0 0->SC prog 156 vs q m (λv Y=>v=.lw r.1/\Y=(m.set P0 ((aE.C r.2))))
theorem Eq (n:Nat):yR (mA n):=λa0 r h q m vs P0 ⟨hv,hmP0,_⟩=>SC.wva hv (SC.ac hmP0 λ_ _ _=>dB func156 call156 ntmps156 results156 rfl (wk .z q m (mA.eq_1 _ _) h))
instance:nO 156 (∀n,yR (mA n)):=⟨Eq⟩
def xL (f:aE->Option (aD × aE)):Prop:=∀a0 r,f a0=some r->∀(q:Pa) (m:M) (vs:List V) (P0:Pa),vs.map V.weak1=[.ptr P0 0]/\m.blk P0=some ((aE.C a0))/\m.gl 4=.eptr [(cA cS cF)] 0 0->SC prog 122 vs q m (λv Y=>v=.agg ((aD.C r.1))/\Y=(m.set P0 ((aE.C r.2))))
instance:Sp kQ 3:=⟨by decide⟩
@[go_sem low] theorem KJ {n:Nat}:List.drop n [V.lit (.string (bs ([112,117,98]:cJ))),V.lit (.string (bs ([117,51,50]:cJ))),V.lit (.string (bs ([117,54,52]:cJ)))]=ND cS kQ[n]? ++ cA cS (kQ.drop (n+1)):=Og (f:=cS) (l:=kQ)
theorem DB (n:Nat):xL (nD n):=λa0 r h q m vs P0 ⟨hv,hmP0,_⟩=>SC.wva hv (SC.ac hmP0 λ_ _ _=>dB func122 call122 ntmps122 results122 rfl (wk (.l [.v 15 Int λy=>.li y,.b 0 aE λy=>(aE.C y),.b 2 aD λy=>[.li y.bS,.li y.fB,.ls y.cZ,.lw y.oL,.list .self (y.aP.map aD.C)],.b 3 aD λy=>[.li y.bS,.li y.fB,.ls y.cZ,.lw y.oL,.list .self (y.aP.map aD.C)]] [0,2,3,14] [] [] none .z .z) q m (nD.eq_1 _ _) h))
instance:nO 122 (∀n,xL (nD n)):=⟨DB⟩
def tP (f:aE->Option ((List aD) × aE)):Prop:=∀a0 r,f a0=some r->∀(q:Pa) (m:M) (vs:List V) (P0:Pa),vs.map V.weak1=[.ptr P0 0,.fn (.func 122) [.ptr P0 0] []]/\m.blk P0=some ((aE.C a0))/\m.gl 4=.eptr [(cA cS cF)] 0 0->SC prog 121 vs q m (λv Y=>∃(id:Pa) (j:Nat),q <:+ id/\v=.list (.st (.anon id j)) (r.1.map aD.C)/\Y=(m.set P0 ((aE.C r.2))).tokset id j true)
theorem Ai (n:Nat):tP (fH n):=λa0 r h q m vs P0 ⟨hv,hmP0,_⟩=>SC.wva hv (SC.ac hmP0 λ_ _ _=>SC_vo func121 call121 ntmps121 results121 0 rfl λ_=>wk (.c .z (.j 1 0 8 [.o 5 (List aD) λy=>(y.map aD.C),.b 0 aE λy=>(aE.C y)] [0,1] [] [] none (.s 5 (.l [.o 5 (List aD) λy=>(y.map aD.C),.b 0 aE λy=>(aE.C y)] [0,1] [] [] none .z .z)) .z)) q m (fH.eq_1 _ _) h)
def yY (f:aE->Int->Option aE):Prop:=∀a0 a1 r,f a0 a1=some r->∀(q:Pa) (m:M) (vs:List V) (P0:Pa),vs.map V.weak1=[.ptr P0 0,.li a1]/\m.blk P0=some ((aE.C a0))->SC prog 157 vs q m (λv Y=>v=.tup []/\Y=(m.set P0 ((aE.C r))))
theorem Ez:yY (mC):=λa0 a1 r h q m vs P0 ⟨hv,hmP0⟩=>SC.wva hv (SC.ac hmP0 λ_ _ _=>dB func157 call157 ntmps157 results157 rfl (wk .z q m (mC.eq_1 _ _) h))
instance:nO 157 (yY mC):=⟨Ez⟩
def yS (f:aE->Int->Option cJ):Prop:=∀a0 a1 r,f a0 a1=some r->∀(q:Pa) (m:M) (vs:List V) (P0:Pa),vs.map V.weak1=[.ptr P0 0,.li a1]/\m.blk P0=some ((aE.C a0))/\m.gl 4=.eptr [(cA cS cF)] 0 0/\m.gl 6=.eptr [(cA (cA cS) cW)] 0 0->SC prog 208 vs q m (λv Y=>v=.ls r/\Y=m)
theorem Es (n:Nat):yS (mB n):=by
 rintro a0 a1 r h q m vs P0 ⟨hv,hmP0,hg4,hg6⟩;refine SC.wv hv ?_;refine SC.apart hmP0 λhpP0=>?_
 try simp only [go_sem,seval] at hmP0
 refine sY func208 call208 ntmps208 results208 ?_;unfold mB at h;refine aK (aQ λ_ z=>?_);have K1:=qJ2 hg4 hg6;simp only [go_sem,seval,bT hpP0,hmP0,K1];apply z;simp only [aB,aA];refine aK (aK ?_);obtain ⟨x1,h5,h⟩:=aI h;obtain ⟨f2,f3,f4⟩:=cB h5;have f6:a1<7:=f3;obtain ⟨w7,d8⟩:=Qt (f:=(cA cS)) (s:=3) (Vc (f:=(cA cS)) (s:=3) _ (by kernel_rfl)) f4;have d9:=(Vc (f:=(cA cS)) (s:=3) _ (by kernel_rfl)) _ (ET f4);have d10:=List.take_left' (l₂:=w7) d9;have d11:(3<=(cA cS x1).length+w7.length)=True:=eq_true (by omega);refine aQ λ_ z=>?_;have K2:=qJ8 K1 f2 f3 f4 f6 d10 d11 d8;simp only [go_sem,seval,bT hpP0,hmP0,K2];apply z;simp only [aB,aA];refine dO ?_;obtain ⟨y14,j14,h⟩:=aI h;refine wY (λc X Y=>∃v13,lO n x1 a0 c v13=some y14/\X 0=.ptr P0 0/\X 9=.agg ((cA cS x1))/\X 10=.li v13/\Y.blk P0=some ((aE.C a0))/\Y.gl=m.gl/\m.back q Y=m) n ⟨0,j14,?_⟩ ?_
 ·simp only [go_sem,seval,aX,aV,aO,aZ,bE hpP0,bT hpP0,hmP0,K2]
 rintro i12 c15 E16 m17 ⟨v13,j14,e18⟩ _
 rcases c15 with _ | c15
 ·cases j14
 rw [lO] at j14;refine aK (aQ λ_ z=>?_);simp only [go_sem,seval,bT hpP0,e18,K2];apply z;simp only [aB,aA];refine aK (eU j14 (λc19 j14=>?_) (λc19 j14=>?_))
 ·refine cO ?_
  try simp only [aB,aA]
  refine aK (dO (aK ?_));obtain ⟨x20,h24,j14⟩:=aI j14;obtain ⟨f21,f22,f23⟩:=cB h24;have f25:=(vQ.1 f23).1;have f26:v13<3:=by have:=cA_one d9;omega
  obtain ⟨w27,d28⟩:=Qt (f:=cS) (s:=1) (λ_ _=>rfl) f23;simp only [go_sem,seval] at d28;refine aQ λ_ z=>?_;have K3:=qJ8 K2 c19 f21 f22 f23 f26 d28 e18;simp only [go_sem,seval,bT hpP0,K3];apply z;simp only [aB,aA];refine aK ?_;obtain ⟨y29,j29,j14⟩:=aI j14;refine yI 10 (λX Y=>X 0=.ptr P0 0/\X 6=.ls x20/\X 9=.agg ((cA cS x1))/\X 10=.li v13/\X 19=.lb y29/\Y.blk P0=some ((aE.C a0))/\Y.gl=m.gl/\m.back q Y=m) ?_ ?_
  ·rcases xV j29 with ⟨c30,j29⟩ | ⟨c30,j29⟩
   ·obtain ⟨x31,h32,j29⟩:=aI j29;refine aQ λ_ z=>?_;simp only [go_sem,seval,bT hpP0,c30,K3];refine SC.by_ (Aj n a0 x20 _ h32 _ _ _ P0 (by simp only [go_sem,seval,bT hpP0,c30,K3])) ?_;simp only [go_sem,seval,bT hpP0,c30,K3];apply z;simp only [aB,aA];cases j29;refine ⟨by decide,?_⟩;simp only [go_sem,seval,aX,aV,aO,aZ,bE hpP0,bT hpP0,c30,K3]
   ·refine aQ λ_ z=>?_;simp only [go_sem,seval,bT hpP0,c30,K3];apply z;simp only [aB,aA];cases j29;refine ⟨by decide,?_⟩;simp only [go_sem,seval,aX,aV,aO,aZ,bE hpP0,bT hpP0,c30,K3]
  ·intro E33 m34 e35 _;simp only [aB,aA];refine eU j14 (λc36 j14=>?_) (λc36 j14=>?_)
   ·refine aK (aQ λ_ z=>?_);have K4:=qJ9 K2 c19 f21 f22 f23 f26 d28 c36 e35;simp only [go_sem,seval,bT hpP0,K4];apply z;simp only [aB,aA];refine cV ?_
    try simp only [aU,aS]
    cases j14;simp only [xer,xel] at h;cases h;refine ⟨by simp,?_⟩;simp only [go_sem,seval,aX,aV,aO,aZ,bE hpP0,bT hpP0,K4]
   ·refine cO ?_
    try simp only [aB,aA]
    refine aQ λ_ z=>?_;have K5:=qJ9 K2 c19 f21 f22 f23 f26 d28 c36 e35;simp only [go_sem,seval,bT hpP0,K5];apply z;simp only [aB,aA];refine ⟨c15,MQ _,(i64.wrap (v13+1)),j14,?_⟩;simp only [go_sem,seval,aX,aV,aO,aZ,bE hpP0,bT hpP0,K5]
 ·refine lT ?_
  try simp only [seval,bD,aY,aB,aA]
  cases j14;simp only [xer,xel] at h;refine aK (aQ λ_ z=>?_);simp only [go_sem,seval,bT hpP0,c19,e18,K2];apply z;simp only [aB,aA];refine cV ?_
  try simp only [aU,aS]
  cases h;refine ⟨by simp,?_⟩;simp only [go_sem,seval,aX,aV,aO,aZ,bE hpP0,bT hpP0,c19,e18,K2]
instance:nO 208 (∀n,yS (mB n)):=⟨Es⟩
def kN (f:aE->Int->Option ((List aD) × aE)):Prop:=∀a0 a1 r,f a0 a1=some r->∀(q:Pa) (m:M) (vs:List V) (P0:Pa) (P1:Pa) (P2:Pa),vs.map V.weak1=[.ptr P0 0,.fn (.func 215) [] [.ptr P1 0,.ptr P2 0]]/\m.blk P0=some ((aE.C a0))/\m.blk P1=some ([.ptr P0 0])/\m.blk P2=some ([.li a1])/\(P0=P1)=False/\(P0=P2)=False/\(P1=P0)=False/\(P1=P2)=False/\(P2=P0)=False/\(P2=P1)=False/\m.gl 4=.eptr [(cA cS cF)] 0 0/\m.gl 6=.eptr [(cA (cA cS) cW)] 0 0->SC prog 121 vs q m (λv Y=>v=.list .none (r.1.map aD.C)/\Y=(m.set P0 ((aE.C r.2))))
def iO (f:aE->Int->Option (aD × aE)):Prop:=∀a0 a1 r,f a0 a1=some r->∀(q:Pa) (m:M) (vs:List V) (P0:Pa),vs.map V.weak1=[.ptr P0 0,.li a1]/\m.blk P0=some ((aE.C a0))/\m.gl 4=.eptr [(cA cS cF)] 0 0/\m.gl 6=.eptr [(cA (cA cS) cW)] 0 0->SC prog 179 vs q m (λv Y=>v=.agg ((aD.C r.1))/\Y=(m.set P0 ((aE.C r.2))))
def lP (f:aE->Int->Int->Option (aD × aE)):Prop:=∀a0 a1 a2 r,f a0 a1 a2=some r->∀(q:Pa) (m:M) (vs:List V) (P0:Pa),vs.map V.weak1=[.ptr P0 0,.li a1,.li a2]/\m.blk P0=some ((aE.C a0))/\m.gl 4=.eptr [(cA cS cF)] 0 0/\m.gl 6=.eptr [(cA (cA cS) cW)] 0 0->SC prog 200 vs q m (λv Y=>v=.agg ((aD.C r.1))/\Y=(m.set P0 ((aE.C r.2))))
def kE (f:aE->Int->Option (aD × aE)):Prop:=∀a0 a1 r,f a0 a1=some r->∀(q:Pa) (m:M) (vs:List V) (P0:Pa),vs.map V.weak1=[.ptr P0 0,.li a1]/\m.blk P0=some ((aE.C a0))/\m.gl 4=.eptr [(cA cS cF)] 0 0/\m.gl 6=.eptr [(cA (cA cS) cW)] 0 0->SC prog 207 vs q m (λv Y=>v=.agg ((aD.C r.1))/\Y=(m.set P0 ((aE.C r.2))))
def rD (f:aE->Int->Option (aD × aE)):Prop:=∀a0 a1 r,f a0 a1=some r->∀(q:Pa) (m:M) (vs:List V) (P0:Pa) (P1:Pa) (P2:Pa),vs.map V.weak1=[.ptr P1 0,.ptr P2 0]/\m.blk P0=some ((aE.C a0))/\m.blk P1=some ([.ptr P0 0])/\m.blk P2=some ([.li a1])/\(P0=P1)=False/\(P0=P2)=False/\(P1=P0)=False/\(P1=P2)=False/\(P2=P0)=False/\(P2=P1)=False/\m.gl 4=.eptr [(cA cS cF)] 0 0/\m.gl 6=.eptr [(cA (cA cS) cW)] 0 0->SC prog 215 vs q m (λv Y=>v=.agg ((aD.C r.1))/\Y=(m.set P0 ((aE.C r.2))))
theorem vE {eR} (Ap:rD eR) (n:Nat):kN (iA eR n):=by
 rintro a0 a1 r h q m vs P0 P1 P2 ⟨hv,hmP0,hmP1,hmP2,hn0_1,hn0_2,hn1_0,hn1_2,hn2_0,hn2_1,hg4,hg6⟩;refine SC.wv hv ?_;refine SC.apart hmP0 λhpP0=>?_;refine SC.apart hmP1 λhpP1=>?_;refine SC.apart hmP2 λhpP2=>?_;have l0:=Hr hmP0
 try simp only [go_sem,seval] at hmP0 l0
 skip
 try simp only [go_sem,seval] at hmP2
 refine sY func121 call121 ntmps121 results121 ?_;unfold iA at h;refine aK (aQ λ_ z=>?_);have K1:=qJ2 hg4 hg6;simp only [go_sem,seval,bT hpP0,bT hpP1,bT hpP2,hn0_1,hn0_2,hn1_0,hn1_2,hn2_0,hn2_1,hmP0,hmP1,hmP2,K1];apply z;simp only [aB,aA];refine aK (aQ λ_ z=>?_);simp only [go_sem,seval,bT hpP0,bT hpP1,bT hpP2,hn0_1,hn0_2,hn1_0,hn1_2,hn2_0,hn2_1,hmP0,hmP1,hmP2,K1];apply z;simp only [aB,aA];refine aK ?_;obtain ⟨x1,h2,h⟩:=aI h;refine aQ λ_ z=>?_;simp only [go_sem,seval,bT hpP0,bT hpP1,bT hpP2,hn0_1,hn0_2,hn1_0,hn1_2,hn2_0,hn2_1,hmP0,hmP1,hmP2,K1];refine SC.by_ (nZ n a0 ([40]:cJ) _ h2 _ _ _ P0 (by simp only [go_sem,seval,bT hpP0,bT hpP1,bT hpP2,hn0_1,hn0_2,hn1_0,hn1_2,hn2_0,hn2_1,hmP0,hmP1,hmP2,K1])) ?_;simp only [go_sem,seval,bT hpP0,bT hpP1,bT hpP2,hn0_1,hn0_2,hn1_0,hn1_2,hn2_0,hn2_1,hmP0,hmP1,hmP2,K1];apply z;simp only [aB,aA];refine aK (aK ?_);obtain ⟨x3,h4,h⟩:=aI h;refine aQ λ_ z=>?_;simp only [go_sem,seval,bT hpP0,bT hpP1,bT hpP2,hn0_1,hn0_2,hn1_0,hn1_2,hn2_0,hn2_1,hmP0,hmP1,hmP2,K1];refine SC.by_ (nW n x1 ([41]:cJ) _ h4 _ _ _ P0 (by simp only [go_sem,seval,bT hpP0,bT hpP1,bT hpP2,hn0_1,hn0_2,hn1_0,hn1_2,hn2_0,hn2_1,hmP0,hmP1,hmP2,K1])) ?_;simp only [go_sem,seval,bT hpP0,bT hpP1,bT hpP2,hn0_1,hn0_2,hn1_0,hn1_2,hn2_0,hn2_1,hmP0,hmP1,hmP2,K1];apply z;simp only [aB,aA];refine eU h (λc5 h=>?_) (λc5 h=>?_)
 ·refine aK (aQ λ_ z=>?_);simp only [go_sem,seval,bT hpP0,bT hpP1,bT hpP2,hn0_1,hn0_2,hn1_0,hn1_2,hn2_0,hn2_1,c5,hmP0,hmP1,hmP2,K1];apply z;simp only [aB,aA];refine cV ?_
  try simp only [aU,aS]
  cases h;refine ⟨by simp,?_⟩;simp only [go_sem,seval,aX,aV,aO,aZ,bE hpP0,bE hpP1,bE hpP2,l0,bT hpP0,bT hpP1,bT hpP2,hn0_1,hn0_2,hn1_0,hn1_2,hn2_0,hn2_1,c5,hmP0,hmP1,hmP2,K1]
 ·refine cO ?_
  try simp only [aB,aA]
  refine aK ?_;obtain ⟨y6,j6,h⟩:=aI h;refine yI 8 (λX Y=>∃(oy6_5:Pa) (jy6_5:Nat),X 0=.ptr P0 0/\X 5=.list (.st (.anon oy6_5 jy6_5)) (y6.1.map aD.C)/\Y.tok oy6_5 jy6_5=true/\q <:+ oy6_5/\Y.blk P0=some ((aE.C y6.2))/\Y.blk P1=some ([.ptr P0 0])/\Y.blk P2=some ([.li a1])/\Y.gl=m.gl/\m.back q Y=(m.set P0 ((aE.C y6.2)))) ?_ ?_
  ·refine dO ?_;obtain ⟨y10,j10,j6⟩:=aI j6;refine BU 5 ([].map aD.C) rfl (by simp only [go_sem,seval,bT hpP0,bT hpP1,bT hpP2,hn0_1,hn0_2,hn1_0,hn1_2,hn2_0,hn2_1,c5,hmP0,hmP1,hmP2,K1]) ?_;refine wY (λc X Y=>∃v8 v9 o_v8 j_v8,fG eR n a1 c v8 v9=some y10/\X 0=.ptr P0 0/\X 1=.fn (.func 215) [] [.ptr P1 0,.ptr P2 0]/\X 5=.list (.st (.anon o_v8 j_v8)) (v8.map aD.C)/\Y.tok o_v8 j_v8=true/\q <:+ o_v8/\Y.blk P0=some ((aE.C v9))/\Y.blk P1=some ([.ptr P0 0])/\Y.blk P2=some ([.li a1])/\Y.gl=m.gl/\m.back q Y=(m.set P0 ((aE.C v9)))) n ⟨[],x3.2,(6::q),0,j10,?_⟩ ?_
   ·simp only [go_sem,seval,aX,aV,aO,aZ,bE hpP0,bE hpP1,bE hpP2,l0,bT hpP0,bT hpP1,bT hpP2,hn0_1,hn0_2,hn1_0,hn1_2,hn2_0,hn2_1,c5,hmP0,hmP1,hmP2,K1]
   rintro i7 c11 E12 m13 ⟨v8,v9,o_v8,j_v8,j10,e14⟩ _
   rcases c11 with _ | c11
   ·cases j10
   rw [fG] at j10;refine aK (aK (aQ λ_ z=>?_));have K2:=qJ3 K1 c5 e14;simp only [go_sem,seval,bT hpP0,bT hpP1,bT hpP2,hn0_1,hn0_2,hn1_0,hn1_2,hn2_0,hn2_1,K2];apply z;simp only [aB,aA];refine eU j10 (λc15 j10=>?_) (λc15 j10=>?_)
   ·refine cO ?_
    try simp only [aB,aA]
    refine dO (aK ?_);obtain ⟨x16,h17,j10⟩:=aI j10;obtain ⟨f18,j10⟩:=cH j10;have f19:v8.length+1<=1073741824:=by first | omega | (simp only [mY,dY,eO] at f18 ⊢;omega)
    have f20:v8.length<=1073741823:=by first | omega | (simp only [mY,dY,eO] at f18 ⊢;omega)
    refine aQ λ_ z=>?_;have K3:=qJ5 K2 c15 f18 f19 f20;simp only [go_sem,seval,bT hpP0,bT hpP1,bT hpP2,hn0_1,hn0_2,hn1_0,hn1_2,hn2_0,hn2_1,K3];refine SC.by_ (Ap v9 a1 _ h17 _ _ _ P0 P1 P2 (by simp only [go_sem,seval,bT hpP0,bT hpP1,bT hpP2,hn0_1,hn0_2,hn1_0,hn1_2,hn2_0,hn2_1,K3])) ?_;simp only [go_sem,seval,bT hpP0,bT hpP1,bT hpP2,hn0_1,hn0_2,hn1_0,hn1_2,hn2_0,hn2_1,K3];apply z;simp only [aB,aA];refine aK ?_;obtain ⟨x21,h22,j10⟩:=aI j10;refine aQ λ_ z=>?_;simp only [go_sem,seval,bT hpP0,bT hpP1,bT hpP2,hn0_1,hn0_2,hn1_0,hn1_2,hn2_0,hn2_1,K3];refine SC.by_ (nW n x16.2 ([44]:cJ) _ h22 _ _ _ P0 (by simp only [go_sem,seval,bT hpP0,bT hpP1,bT hpP2,hn0_1,hn0_2,hn1_0,hn1_2,hn2_0,hn2_1,K3])) ?_;simp only [go_sem,seval,bT hpP0,bT hpP1,bT hpP2,hn0_1,hn0_2,hn1_0,hn1_2,hn2_0,hn2_1,K3];apply z;simp only [aB,aA];refine eU j10 (λc23 j10=>?_) (λc23 j10=>?_)
    ·refine lT ?_
     try simp only [seval,bD,aY,aB,aA]
     cases j10;cases j6;refine ⟨by decide,(9::i7::7::q),0,?_⟩;simp only [go_sem,seval,aX,aV,aO,aZ,bE hpP0,bE hpP1,bE hpP2,l0,bT hpP0,bT hpP1,bT hpP2,hn0_1,hn0_2,hn1_0,hn1_2,hn2_0,hn2_1,c23,K3]
    ·refine cO ?_
     try simp only [aB,aA]
     refine ⟨c11,MQ _,(v8++[x16.1]),x21.2,(9::i7::7::q),0,j10,?_⟩;simp only [go_sem,seval,aX,aV,aO,aZ,bE hpP0,bE hpP1,bE hpP2,l0,bT hpP0,bT hpP1,bT hpP2,hn0_1,hn0_2,hn1_0,hn1_2,hn2_0,hn2_1,c23,K3]
   ·refine lT ?_
    try simp only [seval,bD,aY,aB,aA]
    cases j10;cases j6;refine ⟨by decide,o_v8,j_v8,?_⟩;simp only [go_sem,seval,aX,aV,aO,aZ,bE hpP0,bE hpP1,bE hpP2,l0,bT hpP0,bT hpP1,bT hpP2,hn0_1,hn0_2,hn1_0,hn1_2,hn2_0,hn2_1,c15,K2]
  ·rintro E24 m25 ⟨oy6_5,jy6_5,e26⟩ _;simp only [aB,aA];refine aK ?_;obtain ⟨x27,h28,h⟩:=aI h;refine aQ λ_ z=>?_;have K4:=qJ3 K1 c5 e26;simp only [go_sem,seval,bT hpP0,bT hpP1,bT hpP2,hn0_1,hn0_2,hn1_0,hn1_2,hn2_0,hn2_1,K4];refine SC.by_ (nZ n y6.2 ([41]:cJ) _ h28 _ _ _ P0 (by simp only [go_sem,seval,bT hpP0,bT hpP1,bT hpP2,hn0_1,hn0_2,hn1_0,hn1_2,hn2_0,hn2_1,K4])) ?_;simp only [go_sem,seval,bT hpP0,bT hpP1,bT hpP2,hn0_1,hn0_2,hn1_0,hn1_2,hn2_0,hn2_1,K4];apply z;simp only [aB,aA];refine aK (aQ λ_ z=>?_);simp only [go_sem,seval,bT hpP0,bT hpP1,bT hpP2,hn0_1,hn0_2,hn1_0,hn1_2,hn2_0,hn2_1,K4];apply z;simp only [aB,aA];refine cV ?_
   try simp only [aU,aS]
   cases h;refine ⟨by simp,?_⟩;simp only [go_sem,seval,aX,aV,aO,aZ,bE hpP0,bE hpP1,bE hpP2,l0,bT hpP0,bT hpP1,bT hpP2,hn0_1,hn0_2,hn1_0,hn1_2,hn2_0,hn2_1,K4]
theorem Da {cT} (rQ:lP cT) (n:Nat):iO (oY cT n):=haveI:nO 200 (lP cT):=⟨rQ⟩;λa0 a1 r h q m vs P0 ⟨hv,hmP0,_,_⟩=>SC.wva hv (SC.ac hmP0 λ_ _ _=>dB func179 call179 ntmps179 results179 rfl (wk .z q m (oY.eq_1 _ _ _ _) h))
theorem BZ {cR} (qS:kE cR) {cT} (rQ:lP cT) (n:Nat):lP (oA cR cT n):=haveI:nO 207 (kE cR):=⟨qS⟩;haveI:nO 200 (lP cT):=⟨rQ⟩;λa0 a1 a2 r h q m vs P0 ⟨hv,hmP0,_,_⟩=>SC.wva hv (SC.ac hmP0 λ_ _ _=>dB func200 call200 ntmps200 results200 rfl (wk (.c .z (.l [.v 8 cJ λy=>.ls y,.b 0 aE λy=>(aE.C y),.b 7 aD λy=>(aD.C y)] [0,1,2,6,7] [6] [] none .z .z)) q m (oA.eq_1 _ _ _ _ _ _) h))
instance:Sp gV 2:=⟨by decide⟩
@[go_sem low] theorem Jm {n:Nat}:List.drop n [V.lit (.string (bs ([126]:cJ))),V.lit (.string (bs ([45]:cJ)))]=ND cS gV[n]? ++ cA cS (gV.drop (n+1)):=Og (f:=cS) (l:=gV)
theorem AP {dP} (sH:iO dP) {cR} (qS:kE cR) {gE} (vM:kN gE) (n:Nat):kE (mL dP cR gE n):=haveI:nO 179 (iO dP):=⟨sH⟩;haveI:nO 207 (kE cR):=⟨qS⟩;haveI:nO 121 (kN gE):=⟨vM⟩;λa0 a1 r h q m vs P0 ⟨hv,hmP0,_,_⟩=>SC.wva hv (SC.ac hmP0 λ_ _ _=>dB func207 call207 ntmps207 results207 rfl (wk (.c .z (.l [.v 24 Int λy=>.li y,.b 0 aE λy=>(aE.C y),.b 6 aD λy=>[.li y.bS,.li y.fB,.ls y.cZ,.lw y.oL,.list .self (y.aP.map aD.C)],.b 4 aD λy=>[.li y.bS,.li y.fB,.ls y.cZ,.lw y.oL,.list .self (y.aP.map aD.C)]] [0,2,3,4,6,23] [2,3] [] none .z (.j 2 14 26 [.v 51 Bool λy=>.lb y] [0,2,3,4,6] [0,6,2,3,4] [] none .z (.c .z (.j 1 2 47 [.b 0 aE λy=>(aE.C y),.b 6 aD λy=>(aD.C y)] [0,4,6] [4] [(6,4)] none .z .z))))) q m (mL.eq_1 _ _ _ _ _ _) h))
theorem Ah {dP} (sH:iO dP) (n:Nat):rD (lC dP n):=haveI:nO 179 (iO dP):=⟨sH⟩;λa0 a1 r h q m vs P0 P1 P2 ⟨hv,hmP0,hmP1,hmP2,_,_,_,_,_,_,_,_⟩=>SC.wva hv (SC.ac hmP0 λ_ _ _=>SC.ac hmP1 λ_ _ _=>SC.ac hmP2 λ_ _ _=>dB func215 call215 ntmps215 results215 rfl (wk .z q m (lC.eq_1 _ _ _ _) h))
theorem pW:∀n,kN (zH n)/\iO (eN n)/\lP (Fw n)/\kE (Et n)/\rD (CX n)
 | 0=>⟨λ_ _ _ h=>dU h,λ_ _ _ h=>dU h,λ_ _ _ _ h=>dU h,λ_ _ _ h=>dU h,λ_ _ _ h=>dU h⟩
 | n+1=>
   have ih:=pW n
   ⟨vE ih.2.2.2.2 n,Da ih.2.2.1 n,BZ ih.2.2.2.1 ih.2.2.1 n,AP ih.2.1 ih.2.2.2.1 ih.1 n,Ah ih.2.1 n⟩
theorem Ey (n:Nat):iO (eN n):=(pW n).2.1
instance:nO 179 (∀n,iO (eN n)):=⟨Ey⟩
def xM (f:aE->aD->Int->Option (aD × aE)):Prop:=∀a0 a1 a2 r,f a0 a1 a2=some r->∀(q:Pa) (m:M) (vs:List V) (P0:Pa),vs.map V.weak1=[.ptr P0 0,.agg ((aD.C a1)),.li a2]/\m.blk P0=some ((aE.C a0))/\m.gl 4=.eptr [(cA cS cF)] 0 0/\m.gl 6=.eptr [(cA (cA cS) cW)] 0 0->SC prog 178 vs q m (λv Y=>v=.agg ((aD.C r.1))/\Y=(m.set P0 ((aE.C r.2))))
theorem DC (n:Nat):xM (lD n):=λa0 a1 a2 r h q m vs P0 ⟨hv,hmP0,_,_⟩=>SC.wva hv (SC.ac hmP0 λ_ _ _=>dB func178 call178 ntmps178 results178 rfl (wk .z q m (lD.eq_1 _ _ _ _) h))
instance:nO 178 (∀n,xM (lD n)):=⟨DC⟩
def CW (f:aE->Int->Option (aD × aE)):Prop:=∀a0 a1 r,f a0 a1=some r->∀(q:Pa) (m:M) (vs:List V) (P0:Pa) (P1:Pa) (P2:Pa),vs.map V.weak1=[.ptr P1 0,.ptr P2 0]/\m.blk P0=some ((aE.C a0))/\m.blk P1=some ([.ptr P0 0])/\m.blk P2=some ([.li a1])/\(P0=P1)=False/\(P0=P2)=False/\(P1=P0)=False/\(P1=P2)=False/\(P2=P0)=False/\(P2=P1)=False/\m.gl 4=.eptr [(cA cS cF)] 0 0/\m.gl 6=.eptr [(cA (cA cS) cW)] 0 0->SC prog 201 vs q m (λv Y=>v=.agg ((aD.C r.1))/\Y=(m.set P0 ((aE.C r.2))))
theorem BY (n:Nat):CW (nY n):=λa0 a1 r h q m vs P0 P1 P2 ⟨hv,hmP0,hmP1,hmP2,_,_,_,_,_,_,_,_⟩=>SC.wva hv (SC.ac hmP0 λ_ _ _=>SC.ac hmP1 λ_ _ _=>SC.ac hmP2 λ_ _ _=>dB func201 call201 ntmps201 results201 rfl (wk .z q m (nY.eq_1 _ _ _) h))
def sT (f:aE->Int->Option ((List aD) × aE)):Prop:=∀a0 a1 r,f a0 a1=some r->∀(q:Pa) (m:M) (vs:List V) (P0:Pa) (P1:Pa) (P2:Pa),vs.map V.weak1=[.ptr P0 0,.fn (.func 201) [] [.ptr P1 0,.ptr P2 0]]/\m.blk P0=some ((aE.C a0))/\m.blk P1=some ([.ptr P0 0])/\m.blk P2=some ([.li a1])/\(P0=P1)=False/\(P0=P2)=False/\(P1=P0)=False/\(P1=P2)=False/\(P2=P0)=False/\(P2=P1)=False/\m.gl 4=.eptr [(cA cS cF)] 0 0/\m.gl 6=.eptr [(cA (cA cS) cW)] 0 0->SC prog 121 vs q m (λv Y=>v=.list .none (r.1.map aD.C)/\Y=(m.set P0 ((aE.C r.2))))
theorem yM (n:Nat):sT (gY n):=by
 rintro a0 a1 r h q m vs P0 P1 P2 ⟨hv,hmP0,hmP1,hmP2,hn0_1,hn0_2,hn1_0,hn1_2,hn2_0,hn2_1,hg4,hg6⟩;refine SC.wv hv ?_;refine SC.apart hmP0 λhpP0=>?_;refine SC.apart hmP1 λhpP1=>?_;refine SC.apart hmP2 λhpP2=>?_;have l0:=Hr hmP0
 try simp only [go_sem,seval] at hmP0 l0
 skip
 try simp only [go_sem,seval] at hmP2
 refine sY func121 call121 ntmps121 results121 ?_;unfold gY at h;refine aK (aQ λ_ z=>?_);have K1:=qJ2 hg4 hg6;simp only [go_sem,seval,bT hpP0,bT hpP1,bT hpP2,hn0_1,hn0_2,hn1_0,hn1_2,hn2_0,hn2_1,hmP0,hmP1,hmP2,K1];apply z;simp only [aB,aA];refine aK (aQ λ_ z=>?_);simp only [go_sem,seval,bT hpP0,bT hpP1,bT hpP2,hn0_1,hn0_2,hn1_0,hn1_2,hn2_0,hn2_1,hmP0,hmP1,hmP2,K1];apply z;simp only [aB,aA];refine aK ?_;obtain ⟨x1,h2,h⟩:=aI h;refine aQ λ_ z=>?_;simp only [go_sem,seval,bT hpP0,bT hpP1,bT hpP2,hn0_1,hn0_2,hn1_0,hn1_2,hn2_0,hn2_1,hmP0,hmP1,hmP2,K1];refine SC.by_ (nZ n a0 ([40]:cJ) _ h2 _ _ _ P0 (by simp only [go_sem,seval,bT hpP0,bT hpP1,bT hpP2,hn0_1,hn0_2,hn1_0,hn1_2,hn2_0,hn2_1,hmP0,hmP1,hmP2,K1])) ?_;simp only [go_sem,seval,bT hpP0,bT hpP1,bT hpP2,hn0_1,hn0_2,hn1_0,hn1_2,hn2_0,hn2_1,hmP0,hmP1,hmP2,K1];apply z;simp only [aB,aA];refine aK (aK ?_);obtain ⟨x3,h4,h⟩:=aI h;refine aQ λ_ z=>?_;simp only [go_sem,seval,bT hpP0,bT hpP1,bT hpP2,hn0_1,hn0_2,hn1_0,hn1_2,hn2_0,hn2_1,hmP0,hmP1,hmP2,K1];refine SC.by_ (nW n x1 ([41]:cJ) _ h4 _ _ _ P0 (by simp only [go_sem,seval,bT hpP0,bT hpP1,bT hpP2,hn0_1,hn0_2,hn1_0,hn1_2,hn2_0,hn2_1,hmP0,hmP1,hmP2,K1])) ?_;simp only [go_sem,seval,bT hpP0,bT hpP1,bT hpP2,hn0_1,hn0_2,hn1_0,hn1_2,hn2_0,hn2_1,hmP0,hmP1,hmP2,K1];apply z;simp only [aB,aA];refine eU h (λc5 h=>?_) (λc5 h=>?_)
 ·refine aK (aQ λ_ z=>?_);simp only [go_sem,seval,bT hpP0,bT hpP1,bT hpP2,hn0_1,hn0_2,hn1_0,hn1_2,hn2_0,hn2_1,c5,hmP0,hmP1,hmP2,K1];apply z;simp only [aB,aA];refine cV ?_
  try simp only [aU,aS]
  cases h;refine ⟨by simp,?_⟩;simp only [go_sem,seval,aX,aV,aO,aZ,bE hpP0,bE hpP1,bE hpP2,l0,bT hpP0,bT hpP1,bT hpP2,hn0_1,hn0_2,hn1_0,hn1_2,hn2_0,hn2_1,c5,hmP0,hmP1,hmP2,K1]
 ·refine cO ?_
  try simp only [aB,aA]
  refine aK ?_;obtain ⟨y6,j6,h⟩:=aI h;refine yI 8 (λX Y=>∃(oy6_5:Pa) (jy6_5:Nat),X 0=.ptr P0 0/\X 5=.list (.st (.anon oy6_5 jy6_5)) (y6.1.map aD.C)/\Y.tok oy6_5 jy6_5=true/\q <:+ oy6_5/\Y.blk P0=some ((aE.C y6.2))/\Y.blk P1=some ([.ptr P0 0])/\Y.blk P2=some ([.li a1])/\Y.gl=m.gl/\m.back q Y=(m.set P0 ((aE.C y6.2)))) ?_ ?_
  ·refine dO ?_;obtain ⟨y10,j10,j6⟩:=aI j6;refine BU 5 ([].map aD.C) rfl (by simp only [go_sem,seval,bT hpP0,bT hpP1,bT hpP2,hn0_1,hn0_2,hn1_0,hn1_2,hn2_0,hn2_1,c5,hmP0,hmP1,hmP2,K1]) ?_;refine wY (λc X Y=>∃v8 v9 o_v8 j_v8,fR n a1 c v8 v9=some y10/\X 0=.ptr P0 0/\X 1=.fn (.func 201) [] [.ptr P1 0,.ptr P2 0]/\X 5=.list (.st (.anon o_v8 j_v8)) (v8.map aD.C)/\Y.tok o_v8 j_v8=true/\q <:+ o_v8/\Y.blk P0=some ((aE.C v9))/\Y.blk P1=some ([.ptr P0 0])/\Y.blk P2=some ([.li a1])/\Y.gl=m.gl/\m.back q Y=(m.set P0 ((aE.C v9)))) n ⟨[],x3.2,(6::q),0,j10,?_⟩ ?_
   ·simp only [go_sem,seval,aX,aV,aO,aZ,bE hpP0,bE hpP1,bE hpP2,l0,bT hpP0,bT hpP1,bT hpP2,hn0_1,hn0_2,hn1_0,hn1_2,hn2_0,hn2_1,c5,hmP0,hmP1,hmP2,K1]
   rintro i7 c11 E12 m13 ⟨v8,v9,o_v8,j_v8,j10,e14⟩ _
   rcases c11 with _ | c11
   ·cases j10
   rw [fR] at j10;refine aK (aK (aQ λ_ z=>?_));have K2:=qJ3 K1 c5 e14;simp only [go_sem,seval,bT hpP0,bT hpP1,bT hpP2,hn0_1,hn0_2,hn1_0,hn1_2,hn2_0,hn2_1,K2];apply z;simp only [aB,aA];refine eU j10 (λc15 j10=>?_) (λc15 j10=>?_)
   ·refine cO ?_
    try simp only [aB,aA]
    refine dO (aK ?_);obtain ⟨x16,h17,j10⟩:=aI j10;obtain ⟨f18,j10⟩:=cH j10;have f19:v8.length+1<=1073741824:=by first | omega | (simp only [mY,dY,eO] at f18 ⊢;omega)
    have f20:v8.length<=1073741823:=by first | omega | (simp only [mY,dY,eO] at f18 ⊢;omega)
    refine aQ λ_ z=>?_;have K3:=qJ5 K2 c15 f18 f19 f20;simp only [go_sem,seval,bT hpP0,bT hpP1,bT hpP2,hn0_1,hn0_2,hn1_0,hn1_2,hn2_0,hn2_1,K3];refine SC.by_ (BY n v9 a1 _ h17 _ _ _ P0 P1 P2 (by simp only [go_sem,seval,bT hpP0,bT hpP1,bT hpP2,hn0_1,hn0_2,hn1_0,hn1_2,hn2_0,hn2_1,K3])) ?_;simp only [go_sem,seval,bT hpP0,bT hpP1,bT hpP2,hn0_1,hn0_2,hn1_0,hn1_2,hn2_0,hn2_1,K3];apply z;simp only [aB,aA];refine aK ?_;obtain ⟨x21,h22,j10⟩:=aI j10;refine aQ λ_ z=>?_;simp only [go_sem,seval,bT hpP0,bT hpP1,bT hpP2,hn0_1,hn0_2,hn1_0,hn1_2,hn2_0,hn2_1,K3];refine SC.by_ (nW n x16.2 ([44]:cJ) _ h22 _ _ _ P0 (by simp only [go_sem,seval,bT hpP0,bT hpP1,bT hpP2,hn0_1,hn0_2,hn1_0,hn1_2,hn2_0,hn2_1,K3])) ?_;simp only [go_sem,seval,bT hpP0,bT hpP1,bT hpP2,hn0_1,hn0_2,hn1_0,hn1_2,hn2_0,hn2_1,K3];apply z;simp only [aB,aA];refine eU j10 (λc23 j10=>?_) (λc23 j10=>?_)
    ·refine lT ?_
     try simp only [seval,bD,aY,aB,aA]
     cases j10;cases j6;refine ⟨by decide,(9::i7::7::q),0,?_⟩;simp only [go_sem,seval,aX,aV,aO,aZ,bE hpP0,bE hpP1,bE hpP2,l0,bT hpP0,bT hpP1,bT hpP2,hn0_1,hn0_2,hn1_0,hn1_2,hn2_0,hn2_1,c23,K3]
    ·refine cO ?_
     try simp only [aB,aA]
     refine ⟨c11,MQ _,(v8++[x16.1]),x21.2,(9::i7::7::q),0,j10,?_⟩;simp only [go_sem,seval,aX,aV,aO,aZ,bE hpP0,bE hpP1,bE hpP2,l0,bT hpP0,bT hpP1,bT hpP2,hn0_1,hn0_2,hn1_0,hn1_2,hn2_0,hn2_1,c23,K3]
   ·refine lT ?_
    try simp only [seval,bD,aY,aB,aA]
    cases j10;cases j6;refine ⟨by decide,o_v8,j_v8,?_⟩;simp only [go_sem,seval,aX,aV,aO,aZ,bE hpP0,bE hpP1,bE hpP2,l0,bT hpP0,bT hpP1,bT hpP2,hn0_1,hn0_2,hn1_0,hn1_2,hn2_0,hn2_1,c15,K2]
  ·rintro E24 m25 ⟨oy6_5,jy6_5,e26⟩ _;simp only [aB,aA];refine aK ?_;obtain ⟨x27,h28,h⟩:=aI h;refine aQ λ_ z=>?_;have K4:=qJ3 K1 c5 e26;simp only [go_sem,seval,bT hpP0,bT hpP1,bT hpP2,hn0_1,hn0_2,hn1_0,hn1_2,hn2_0,hn2_1,K4];refine SC.by_ (nZ n y6.2 ([41]:cJ) _ h28 _ _ _ P0 (by simp only [go_sem,seval,bT hpP0,bT hpP1,bT hpP2,hn0_1,hn0_2,hn1_0,hn1_2,hn2_0,hn2_1,K4])) ?_;simp only [go_sem,seval,bT hpP0,bT hpP1,bT hpP2,hn0_1,hn0_2,hn1_0,hn1_2,hn2_0,hn2_1,K4];apply z;simp only [aB,aA];refine aK (aQ λ_ z=>?_);simp only [go_sem,seval,bT hpP0,bT hpP1,bT hpP2,hn0_1,hn0_2,hn1_0,hn1_2,hn2_0,hn2_1,K4];apply z;simp only [aB,aA];refine cV ?_
   try simp only [aU,aS]
   cases h;refine ⟨by simp,?_⟩;simp only [go_sem,seval,aX,aV,aO,aZ,bE hpP0,bE hpP1,bE hpP2,l0,bT hpP0,bT hpP1,bT hpP2,hn0_1,hn0_2,hn1_0,hn1_2,hn2_0,hn2_1,K4]
def xK (f:aE->aD->Int->Option (aD × aE)):Prop:=∀a0 a1 a2 r,f a0 a1 a2=some r->∀(q:Pa) (m:M) (vs:List V) (P0:Pa),vs.map V.weak1=[.ptr P0 0,.agg ((aD.C a1)),.li a2]/\m.blk P0=some ((aE.C a0))/\m.gl 4=.eptr [(cA cS cF)] 0 0/\m.gl 6=.eptr [(cA (cA cS) cW)] 0 0->SC prog 182 vs q m (λv Y=>v=.agg ((aD.C r.1))/\Y=(m.set P0 ((aE.C r.2))))
theorem DA (n:Nat):xK (nC n):=λa0 a1 a2 r h q m vs P0 ⟨hv,hmP0,_,_⟩=>SC.wva hv (SC.ac hmP0 λ_ _ _=>haveI:nO 121 (∀n,sT (gY n)):=⟨yM⟩;dB func182 call182 ntmps182 results182 rfl (wk (.j 1 0 37 [.b 0 aE λy=>(aE.C y),.b 4 aD λy=>(aD.C y)] [0,3,4,6] [3,6] [(4,4)] none .z .z) q m (nC.eq_1 _ _ _ _) h))
instance:nO 182 (∀n,xK (nC n)):=⟨DA⟩
def iB (f:aE->Int->Option (aD × aE)):Prop:=∀a0 a1 r,f a0 a1=some r->∀(q:Pa) (m:M) (vs:List V) (P0:Pa),vs.map V.weak1=[.ptr P0 0,.li a1]/\m.blk P0=some ((aE.C a0))/\m.gl 4=.eptr [(cA cS cF)] 0 0/\m.gl 6=.eptr [(cA (cA cS) cW)] 0 0->SC prog 123 vs q m (λv Y=>v=.agg ((aD.C r.1))/\Y=(m.set P0 ((aE.C r.2))))
def nX (f:aE->Int->Option (aD × aE)):Prop:=∀a0 a1 r,f a0 a1=some r->∀(q:Pa) (m:M) (vs:List V) (P0:Pa),vs.map V.weak1=[.ptr P0 0,.li a1]/\m.blk P0=some ((aE.C a0))/\m.gl 4=.eptr [(cA cS cF)] 0 0/\m.gl 6=.eptr [(cA (cA cS) cW)] 0 0->SC prog 158 vs q m (λv Y=>v=.agg ((aD.C r.1))/\Y=(m.set P0 ((aE.C r.2))))
def pY (f:aE->aD->Int->Option (aD × aE)):Prop:=∀a0 a1 a2 r,f a0 a1 a2=some r->∀(q:Pa) (m:M) (vs:List V) (P0:Pa),vs.map V.weak1=[.ptr P0 0,.agg ((aD.C a1)),.li a2]/\m.blk P0=some ((aE.C a0))/\m.gl 4=.eptr [(cA cS cF)] 0 0/\m.gl 6=.eptr [(cA (cA cS) cW)] 0 0->SC prog 180 vs q m (λv Y=>v=.agg ((aD.C r.1))/\Y=(m.set P0 ((aE.C r.2))))
def rK (f:aE->aD->Int->Option (aD × aE)):Prop:=∀a0 a1 a2 r,f a0 a1 a2=some r->∀(q:Pa) (m:M) (vs:List V) (P0:Pa),vs.map V.weak1=[.ptr P0 0,.agg ((aD.C a1)),.li a2]/\m.blk P0=some ((aE.C a0))/\m.gl 4=.eptr [(cA cS cF)] 0 0/\m.gl 6=.eptr [(cA (cA cS) cW)] 0 0->SC prog 181 vs q m (λv Y=>v=.agg ((aD.C r.1))/\Y=(m.set P0 ((aE.C r.2))))
theorem Ca {eQ} (Ao:nX eQ) (n:Nat):iB (oB eQ n):=haveI:nO 158 (nX eQ):=⟨Ao⟩;λa0 a1 r h q m vs P0 ⟨hv,hmP0,_,_⟩=>SC.wva hv (SC.ac hmP0 λ_ _ _=>dB func123 call123 ntmps123 results123 rfl (wk (.l [.b 0 aE λy=>(aE.C y),.b 5 aD λy=>[.li y.bS,.li y.fB,.ls y.cZ,.lw y.oL,.list .self (y.aP.map aD.C)]] [0,1,4,5] [4] [] none (.j 2 4 10 [.v 22 Bool λy=>.lb y] [0,1,4,5] [0,4,5] [] none .z .z) .z) q m (oB.eq_1 _ _ _ _) h))
theorem Ag {lW} (BJ:pY lW) {nB} (Dq:rK nB) (n:Nat):nX (lB lW nB n):=haveI:nO 180 (pY lW):=⟨BJ⟩;haveI:nO 181 (rK nB):=⟨Dq⟩;λa0 a1 r h q m vs P0 ⟨hv,hmP0,_,_⟩=>SC.wva hv (SC.ac hmP0 λ_ _ _=>dB func158 call158 ntmps158 results158 rfl (wk (.j 11 0 26 [.b 0 aE λy=>(aE.C y),.b 5 aD λy=>[.li y.bS,.li y.fB,.ls y.cZ,.lw y.oL,.list .self (y.aP.map aD.C)]] [0,4,5] [4] [] none .z .z) q m (lB.eq_1 _ _ _ _ _) h))
theorem Bv {dK} (rR:iB dK) (n:Nat):pY (nE dK n):=haveI:nO 123 (iB dK):=⟨rR⟩;λa0 a1 a2 r h q m vs P0 ⟨hv,hmP0,_,_⟩=>SC.wva hv (SC.ac hmP0 λ_ _ _=>dB func180 call180 ntmps180 results180 rfl (wk .z q m (nE.eq_1 _ _ _ _ _) h))
theorem CZ {dK} (rR:iB dK) (n:Nat):rK (oX dK n):=haveI:nO 123 (iB dK):=⟨rR⟩;λa0 a1 a2 r h q m vs P0 ⟨hv,hmP0,_,_⟩=>SC.wva hv (SC.ac hmP0 λ_ _ _=>dB func181 call181 ntmps181 results181 rfl (wk .z q m (oX.eq_1 _ _ _ _ _) h))
theorem uE:∀n,iB (eD n)/\nX (CV n)/\pY (EZ n)/\rK (Gj n)
 | 0=>⟨λ_ _ _ h=>dU h,λ_ _ _ h=>dU h,λ_ _ _ _ h=>dU h,λ_ _ _ _ h=>dU h⟩
 | n+1=>
   have ih:=uE n
   ⟨Ca ih.2.1 n,Ag ih.2.2.1 ih.2.2.2 n,Bv ih.1 n,CZ ih.1 n⟩
theorem DD (n:Nat):iB (eD n):=(uE n).1
instance:nO 123 (∀n,iB (eD n)):=⟨DD⟩
def uW (f:aE->Option (aD × aE)):Prop:=∀a0 r,f a0=some r->∀(q:Pa) (m:M) (vs:List V) (P0:Pa),vs.map V.weak1=[.ptr P0 0]/\m.blk P0=some ((aE.C a0))/\m.gl 4=.eptr [(cA cS cF)] 0 0/\m.gl 6=.eptr [(cA (cA cS) cW)] 0 0->SC prog 87 vs q m (λv Y=>v=.agg ((aD.C r.1))/\Y=(m.set P0 ((aE.C r.2))))
theorem Bu (n:Nat):uW (kR n):=λa0 r h q m vs P0 ⟨hv,hmP0,_,_⟩=>SC.wva hv (SC.ac hmP0 λ_ _ _=>haveI:nO 121 (∀n,tP (fH n)):=⟨Ai⟩;dB func87 call87 ntmps87 results87 rfl (wk .z q m (kR.eq_1 _ _) h))
instance:nO 87 (∀n,uW (kR n)):=⟨Bu⟩
def KS (f:cJ->Option (aD × Int × Int)):Prop:=∀a0 r,f a0=some r->∀(q:Pa) (m:M) (vs:List V),vs.map V.weak1=[.list .none (pT a0)]/\m.gl 3=.eptr [(cA cS eY)] 0 0/\m.gl 4=.eptr [(cA cS cF)] 0 0/\m.gl 6=.eptr [(cA (cA cS) cW)] 0 0->SC prog 56 vs q m (λv Y=>v=.tup [.agg ((aD.C r.1)),.li r.2.1,.li r.2.2]/\Y=m)
theorem JN (n:Nat):KS (Af n):=λa0 r h q m vs ⟨hv,_,_,_⟩=>SC.wva hv (dB func56 call56 ntmps56 results56 rfl (wk (.c .z (.l [.b 8 aE λy=>(aE.C y),.b 9 aD λy=>[.li y.bS,.li y.fB,.ls y.cZ,.lw y.oL,.list .self (y.aP.map aD.C)]] [2,8,9] [2] [] none (.j 2 6 11 [.v 36 Bool λy=>.lb y] [2,8,9] [2,8,9] [] none .z .z) .z)) q m (Af.eq_1 _ _) h))
def xT (f:aG->aH->Int->Int->Option aH):Prop:=∀a0 a1 a2 a3 r,f a0 a1 a2 a3=some r->∀(q:Pa) (m:M) (vs:List V) (P0:Pa) (F0 fp0 S0 C0:V),vs.map V.weak1=[.ptr P0 0,.li a2,.li a3]/\m.blk P0=some (qI F0 fp0 S0 C0 a0 a1)/\cY F0 fp0 S0 C0 m.hp a0->SC prog 95 vs q m (λv Y=>v=.tup []/\Y=(m.set P0 (qI F0 fp0 S0 C0 a0 r)))
theorem DM:xT (pR):=λa0 a1 a2 a3 r h q m vs P0 F0 fp0 S0 C0 ⟨hv,hmP0,t0⟩=>SC.wva hv (SC.ac hmP0 λ_ _ _=>dB func95 call95 ntmps95 results95 rfl (wk .z q m (pR.eq_1 _ _ _ _) h))
instance:nO 95 (xT pR):=⟨DM⟩
def xP (f:aG->aH->Bool->Int->Int->Option aH):Prop:=∀a0 a1 a2 a3 a4 r,f a0 a1 a2 a3 a4=some r->∀(q:Pa) (m:M) (vs:List V) (P0:Pa) (F0 fp0 S0 C0:V),vs.map V.weak1=[.ptr P0 0,.lb a2,.li a3,.li a4]/\m.blk P0=some (qI F0 fp0 S0 C0 a0 a1)/\cY F0 fp0 S0 C0 m.hp a0->SC prog 60 vs q m (λv Y=>v=.tup []/\Y=(m.set P0 (qI F0 fp0 S0 C0 a0 r)))
theorem bN:xP (bB):=λa0 a1 a2 a3 a4 r h q m vs P0 F0 fp0 S0 C0 ⟨hv,hmP0,t0⟩=>SC.wva hv (SC.ac hmP0 λ_ _ _=>dB func60 call60 ntmps60 results60 rfl (wk .z q m (bB.eq_1 _ _ _ _ _) h))
instance:nO 60 (xP bB):=⟨bN⟩
