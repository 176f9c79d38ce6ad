import Derived.Test.YtnnomaboaiokeaaGreatDoorLH4
import Derived.Test.YtnnomaboaiokeaaGreatDoorLAw
namespace Go.Proofs.YtnnomaboaiokeaaGreatDoor.Abs
open Go.RowKit Tryz
open IntKind (i64 u32 u64 u8)
set_option linter.all false
set_option maxRecDepth 10000
set_option maxHeartbeats 2000000
open Tryz
instance:KP bJ.C 2:=⟨λx=>by rw [bJ.C_eq];rfl⟩
instance:KP bX.C 2:=⟨λx=>by rw [bX.C_eq];rfl⟩
instance:RL eZ 26:=⟨by decide⟩
instance:RL cL 5:=⟨by decide⟩
instance:RL dP 15:=⟨by decide⟩
def Im (f:Int->Option Bool):Prop:=∀a0 r,f a0=some r->BH prog 146 [.lit (.int .u8 a0)] (.lb r)
theorem LR:Im (AU):=λa0 r h q m vs hv=>SC.wva hv (cY func146 call146 ntmps146 results146 rfl (wk (.j 2 1 16 [.v 2 Bool λy=>.lb y] [] [] [] none .z .z) q m (AU.eq_1 _) h))
instance:nK 146 (Im AU):=⟨LR⟩
def rR (f:cJ->cJ->Option Bool):Prop:=∀a0 a1 r,f a0 a1=some r->BH prog 173 [.ls a0,.ls a1] (.lb r)
theorem wQ:rR (fA):=λa0 a1 r h q m vs hv=>SC.wva hv (cY func173 call173 ntmps173 results173 rfl (wk (.j 2 1 15 [.v 4 Bool λy=>.lb y] [] [] [] none .z .z) q m (fA.eq_1 _ _) h))
instance:nK 173 (rR fA):=⟨wQ⟩
def Au (f:cJ->cJ->Option Bool):Prop:=∀a0 a1 r,f a0 a1=some r->BH prog 147 [.ls a0,.ls a1] (.lb r)
theorem EY:Au (nO):=λa0 a1 r h q m vs hv=>SC.wva hv (cY func147 call147 ntmps147 results147 rfl (wk .z q m (nO.eq_1 _ _) h))
instance:nK 147 (Au nO):=⟨EY⟩
def qS (f:cJ->Int->Option Int):Prop:=∀a0 a1 r,f a0 a1=some r->BH prog 197 [.ls a0,.lit (.int .u8 a1)] (.li r)
theorem uY:qS oB:=by
 intro a0 a1 r h q m vs hv;refine SC.weak ?_;rw [hv];cases h;intro c xs w h1 h2 h3;obtain ⟨x,xs,rfl,k1,k2⟩:=h2.uncons;obtain ⟨y,rfl,k3⟩:=k2.inv_one;obtain rfl:=k1.inv_lit;obtain rfl:=k3.inv_lit;refine .inr ⟨.int .i64 (Lib.indexByte a0 a1.toNat.toUInt8),w,?_,_,c,_,m,rfl,⟨rfl,rfl⟩,h1,.refl q c m w,.lit .nil⟩;rw [run_callFunc_extern (fn:=f197) (e:=Extern.BytealgIndexByte.indexByte) func197 (by kernel_rfl) (by kernel_rfl) (by kernel_rfl) (by rfl)];have:=Lib.run_indexByteString (P:=prog) (bs a0) a1 w;rw [this];rfl
instance:nK 197 (qS oB):=⟨uY⟩
def rQ (f:cJ->Int->Option Int):Prop:=∀a0 a1 r,f a0 a1=some r->BH prog 174 [.ls a0,.lit (.int .u8 a1)] (.li r)
theorem wP:rQ (lN):=λa0 a1 r h q m vs hv=>SC.wva hv (cY func174 call174 ntmps174 results174 rfl (wk .z q m (lN.eq_1 _ _) h))
instance:nK 174 (rQ lN):=⟨wP⟩
def At (f:cJ->Int->Option Int):Prop:=∀a0 a1 r,f a0 a1=some r->BH prog 148 [.ls a0,.lit (.int .u8 a1)] (.li r)
theorem EX:At (nM):=λa0 a1 r h q m vs hv=>SC.wva hv (cY func148 call148 ntmps148 results148 rfl (wk .z q m (nM.eq_1 _ _) h))
instance:nK 148 (At nM):=⟨EX⟩
def JE (f:cJ->Int->Option Int):Prop:=∀a0 a1 r,f a0 a1=some r->BH prog 115 [.ls a0,.li a1] (.li r)
theorem No (n:Nat):JE (Bt n):=λa0 a1 r h q m vs hv=>SC.wva hv (cY func115 call115 ntmps115 results115 rfl (wk (.l [.v 1 Int λy=>.li y] [0] [] [] none .z .z) q m (Bt.eq_1 _ _ _) h))
instance:nK 115 (∀n,JE (Bt n)):=⟨No⟩
def He (f:Int->Option Bool):Prop:=∀a0 r,f a0=some r->BH prog 150 [.lit (.int .u8 a0)] (.lb r)
theorem KE:He (vR):=λa0 r h q m vs hv=>SC.wva hv (cY func150 call150 ntmps150 results150 rfl (wk (.j 2 1 12 [.v 2 Bool λy=>.lb y] [] [] [] none .z .z) q m (vR.eq_1 _) h))
instance:nK 150 (He vR):=⟨KE⟩
def In (f:Int->Option Bool):Prop:=∀a0 r,f a0=some r->BH prog 151 [.lit (.int .u8 a0)] (.lb r)
theorem LT:In (yY):=λa0 r h q m vs hv=>SC.wva hv (cY func151 call151 ntmps151 results151 rfl (wk (.j 2 1 8 [.v 2 Bool λy=>.lb y] [] [] [] none .z .z) q m (yY.eq_1 _) h))
instance:nK 151 (In yY):=⟨LT⟩
def JD (f:cJ->Option cJ):Prop:=∀a0 r,f a0=some r->BH prog 149 [.ls a0] (.ls r)
theorem Nn (n:Nat):JD (DG n):=λa0 r h q m vs hv=>SC.wva hv (cY func149 call149 ntmps149 results149 rfl (wk (.l [.v 6 Int λy=>.li y] [0,5] [] [] none (.c (.j 2 4 15 [.v 20 Bool λy=>.lb y] [0,3,5,6] [] [] none .z .z) .z) .z) q m (DG.eq_1 _ _) h))
instance:nK 149 (∀n,JD (DG n)):=⟨Nn⟩
def rT (f:cJ->cJ->Option (cJ × Bool)):Prop:=∀a0 a1 r,f a0 a1=some r->BH prog 198 [.ls a0,.ls a1] (.tup [.ls r.1,.lb r.2])
theorem wR:rT (iQ):=λa0 a1 r h q m vs hv=>SC.wva hv (cY func198 call198 ntmps198 results198 rfl (wk .z q m (iQ.eq_1 _ _) h))
instance:nK 198 (rT iQ):=⟨wR⟩
def Av (f:cJ->cJ->Option (cJ × Bool)):Prop:=∀a0 a1 r,f a0 a1=some r->BH prog 175 [.ls a0,.ls a1] (.tup [.ls r.1,.lb r.2])
theorem EZ:Av (pP):=λa0 a1 r h q m vs hv=>SC.wva hv (cY func175 call175 ntmps175 results175 rfl (wk .z q m (pP.eq_1 _ _) h))
instance:nK 175 (Av pP):=⟨EZ⟩
def Il (f:cJ->Option (Int × Bool)):Prop:=∀a0 r,f a0=some r->BH prog 152 [.ls a0] (.tup [.lw r.1,.lb r.2])
theorem LQ (n:Nat):Il (AT n):=λa0 r h q m vs hv=>SC.wva hv (cY func152 call152 ntmps152 results152 rfl (wk (.c (.l [.v 7 Int λy=>.li y,.v 19 Int λy=>.li y] [0,4,18] [] [] none (.c (.j 2 11 22 [.v 38 Bool λy=>.lb y] [0,4,7,18,19] [] [] none .z .z) .z) .z) (.l [.v 7 Int λy=>.li y,.v 19 Int λy=>.li y] [0,4,18] [] [] none (.c (.j 2 11 22 [.v 38 Bool λy=>.lb y] [0,4,7,18,19] [] [] none .z .z) .z) .z)) q m (AT.eq_1 _ _) h))
instance:nK 152 (∀n,Il (AT n)):=⟨LQ⟩
def JF (f:cJ->Option cJ):Prop:=∀a0 r,f a0=some r->∀(q:Pa) (m:M) (vs:List V),vs.map V.weak1=[.ls a0]/\m.gl 3=.eptr [(cA cS eZ)] 0 0->SC prog 153 vs q m (λv Y=>v=.ls r/\Y=m)
theorem Np (n:Nat):JF (DH n):=λa0 r h q m vs ⟨hv,_⟩=>SC.wva hv (cY func153 call153 ntmps153 results153 rfl (wk (.l [.v 6 Int λy=>.li y] [0,5] [] [] none .z .z) q m (DH.eq_1 _ _) h))
instance:nK 153 (∀n,JF (DH n)):=⟨Np⟩
def JG (f:cJ->Int->Option (dE × Int)):Prop:=∀a0 a1 r,f a0 a1=some r->∀(q:Pa) (m:M) (vs:List V),vs.map V.weak1=[.ls a0,.li a1]/\m.gl 3=.eptr [(cA cS eZ)] 0 0->SC prog 116 vs q m (λv Y=>v=.tup [.agg ((dE.C r.1)),.li r.2]/\Y=m)
theorem Nq (n:Nat):JG (DI n):=λa0 a1 r h q m vs ⟨hv,_⟩=>SC.wva hv (cY func116 call116 ntmps116 results116 rfl (wk .z q m (DI.eq_1 _ _ _) h))
instance:nK 116 (∀n,JG (DI n)):=⟨Nq⟩
def Hc (f:cJ->Option ((List dE) × Int × Int)):Prop:=∀a0 r,f a0=some r->∀(q:Pa) (m:M) (vs:List V),vs.map V.weak1=[.list .none (pM a0)]/\m.gl 3=.eptr [(cA cS eZ)] 0 0->SC prog 84 vs q m (λv Y=>v=.tup [.list .none (r.1.map dE.C),.li r.2.1,.li r.2.2]/\Y=m)
theorem KD (n:Nat):Hc (yX n):=λa0 r h q m vs ⟨hv,_⟩=>SC.wva hv (cY func84 call84 ntmps84 results84 rfl (wk (.c .z (.s 6 (.l [.o 6 (List dE) λy=>(y.map dE.C),.v 7 Int λy=>.li y] [5] [] [] none .z .z))) q m (yX.eq_1 _ _) h))
instance:nK 84 (∀n,Hc (yX n)):=⟨KD⟩
def wW (f:aE->Option dE):Prop:=∀a0 r,f a0=some r->∀(q:Pa) (m:M) (vs:List V) (P0:Pa),vs.map V.weak1=[.ptr P0 0]/\m.blk P0=some ((aE.C a0))->SC prog 86 vs q m (λv Y=>v=.agg ((dE.C r))/\Y=m)
theorem Dn:wW (eB):=λa0 r h q m vs P0 ⟨hv,hmP0⟩=>SC.wva hv (SC.ac hmP0 λ_ _ _=>cY func86 call86 ntmps86 results86 rfl (wk .z q m (eB.eq_1 _) h))
instance:nK 86 (wW eB):=⟨Dn⟩
def yJ (f:aE->Int->Option aE):Prop:=∀a0 a1 r,f a0 a1=some r->∀(q:Pa) (m:M) (vs:List V) (P0:Pa),vs.map V.weak1=[.ptr P0 0,.li a1]/\m.blk P0=some ((aE.C a0))->SC prog 117 vs q m (λv Y=>v=.tup []/\Y=(m.set P0 ((aE.C r))))
theorem Eh:yJ (gO):=λa0 a1 r h q m vs P0 ⟨hv,hmP0⟩=>SC.wva hv (SC.ac hmP0 λ_ _ _=>cY func117 call117 ntmps117 results117 rfl (wk .z q m (gO.eq_1 _ _) h))
instance:nK 117 (yJ gO):=⟨Eh⟩
def yG (f:aE->Int->Option (aD × aE)):Prop:=∀a0 a1 r,f a0 a1=some r->∀(q:Pa) (m:M) (vs:List V) (P0:Pa),vs.map V.weak1=[.ptr P0 0,.li a1]/\m.blk P0=some ((aE.C a0))->SC prog 85 vs q m (λv Y=>∃(id:Pa) (j:Nat),q <:+ id/\v=.agg ([.li r.1.bT,.li r.1.fC,.ls r.1.cW,.lw r.1.pO,.list (.st (.anon id j)) (r.1.aP.map aD.C)])/\Y=(m.set P0 ((aE.C r.2))).tokset id j true)
theorem Ef:yG (eL):=λa0 a1 r h q m vs P0 ⟨hv,hmP0⟩=>SC.wva hv (SC.ac hmP0 λ_ _ _=>SC_vo func85 call85 ntmps85 results85 4 rfl λ_=>wk .z q m (eL.eq_1 _ _) h)
instance:nK 85 (yG eL):=⟨Ef⟩
def sC (f:(List cJ)->cJ->Option Int):Prop:=∀a0 a1 r,f a0 a1=some r->BH prog 199 [.list .none (a0.map cS),.ls a1] (.li r)
theorem xY (n:Nat):sC (jW n):=λa0 a1 r h q m vs hv=>SC.wva hv (cY func199 call199 ntmps199 results199 rfl (wk (.l [.v 8 Int λy=>.li y] [0,1,7] [] [] none .z .z) q m (jW.eq_1 _ _ _) h))
instance:nK 199 (∀n,sC (jW n)):=⟨xY⟩
def qY (f:(List cJ)->cJ->Option Bool):Prop:=∀a0 a1 r,f a0 a1=some r->BH prog 176 [.list .none (a0.map cS),.ls a1] (.lb r)
theorem vP (n:Nat):qY (iI n):=λa0 a1 r h q m vs hv=>SC.wva hv (cY func176 call176 ntmps176 results176 rfl (wk .z q m (iI.eq_1 _ _ _) h))
instance:nK 176 (∀n,qY (iI n)):=⟨vP⟩
def Hb (f:cJ->Option Bool):Prop:=∀a0 r,f a0=some r->∀(q:Pa) (m:M) (vs:List V),vs.map V.weak1=[.ls a0]/\m.gl 4=.eptr [(cA cS cE)] 0 0->SC prog 155 vs q m (λv Y=>v=.lb r/\Y=m)
theorem Kz (n:Nat):Hb (vQ n):=λa0 r h q m vs ⟨hv,_⟩=>SC.wva hv (cY func155 call155 ntmps155 results155 rfl (wk .z q m (vQ.eq_1 _ _) h))
instance:nK 155 (∀n,Hb (vQ n)):=⟨Kz⟩
def Ax (f:aE->cJ->Option Bool):Prop:=∀a0 a1 r,f a0 a1=some r->∀(q:Pa) (m:M) (vs:List V) (P0:Pa),vs.map V.weak1=[.ptr P0 0,.ls a1]/\m.blk P0=some ((aE.C a0))/\m.gl 4=.eptr [(cA cS cE)] 0 0->SC prog 154 vs q m (λv Y=>v=.lb r/\Y=m)
theorem zV (n:Nat):Ax (iT n):=λa0 a1 r h q m vs P0 ⟨hv,hmP0,_⟩=>SC.wva hv (SC.ac hmP0 λ_ _ _=>cY func154 call154 ntmps154 results154 rfl (wk (.j 2 2 31 [.v 4 Bool λy=>.lb y] [0] [0] [] none .z .z) q m (iT.eq_1 _ _ _) h))
instance:nK 154 (∀n,Ax (iT n)):=⟨zV⟩
def yD (f:aE->cJ->Option (Bool × aE)):Prop:=∀a0 a1 r,f a0 a1=some r->∀(q:Pa) (m:M) (vs:List V) (P0:Pa),vs.map V.weak1=[.ptr P0 0,.ls a1]/\m.blk P0=some ((aE.C a0))/\m.gl 4=.eptr [(cA cS cE)] 0 0->SC prog 118 vs q m (λv Y=>v=.lb r.1/\Y=(m.set P0 ((aE.C r.2))))
theorem nP (n:Nat):yD (bU n):=λa0 a1 r h q m vs P0 ⟨hv,hmP0,_⟩=>SC.wva hv (SC.ac hmP0 λ_ _ _=>cY func118 call118 ntmps118 results118 rfl (wk .z q m (bU.eq_1 _ _ _) h))
instance:nK 118 (∀n,yD (bU n)):=⟨nP⟩
def yH (f:aE->cJ->Option aE):Prop:=∀a0 a1 r,f a0 a1=some r->∀(q:Pa) (m:M) (vs:List V) (P0:Pa),vs.map V.weak1=[.ptr P0 0,.ls a1]/\m.blk P0=some ((aE.C a0))/\m.gl 4=.eptr [(cA cS cE)] 0 0->SC prog 119 vs q m (λv Y=>v=.tup []/\Y=(m.set P0 ((aE.C r))))
theorem nS (n:Nat):yH (bQ n):=λa0 a1 r h q m vs P0 ⟨hv,hmP0,_⟩=>SC.wva hv (SC.ac hmP0 λ_ _ _=>cY func119 call119 ntmps119 results119 rfl (wk .z q m (bQ.eq_1 _ _ _) h))
instance:nK 119 (∀n,yH (bQ n)):=⟨nS⟩
def yI (f:aE->Option (cJ × aE)):Prop:=∀a0 r,f a0=some r->∀(q:Pa) (m:M) (vs:List V) (P0:Pa),vs.map V.weak1=[.ptr P0 0]/\m.blk P0=some ((aE.C a0))/\m.gl 4=.eptr [(cA cS cE)] 0 0->SC prog 120 vs q m (λv Y=>v=.ls r.1/\Y=(m.set P0 ((aE.C r.2))))
theorem Eg (n:Nat):yI (dY n):=λa0 r h q m vs P0 ⟨hv,hmP0,_⟩=>SC.wva hv (SC.ac hmP0 λ_ _ _=>cY func120 call120 ntmps120 results120 rfl (wk (.j 2 2 20 [.v 20 Bool λy=>.lb y] [0,3] [0,3] [] none .z .z) q m (dY.eq_1 _ _) h))
instance:nK 120 (∀n,yI (dY n)):=⟨Eg⟩
def vZ (f:aE->Option (Int × aE)):Prop:=∀a0 r,f a0=some r->∀(q:Pa) (m:M) (vs:List V) (P0:Pa),vs.map V.weak1=[.ptr P0 0]/\m.blk P0=some ((aE.C a0))->SC prog 177 vs q m (λv Y=>v=.lw r.1/\Y=(m.set P0 ((aE.C r.2))))
theorem CG:vZ (kG):=λa0 r h q m vs P0 ⟨hv,hmP0⟩=>SC.wva hv (SC.ac hmP0 λ_ _ _=>cY func177 call177 ntmps177 results177 rfl (wk (.j 2 2 15 [.v 15 Bool λy=>.lb y] [0,3] [0,3] [] none .z .z) q m (kG.eq_1 _) h))
instance:nK 177 (vZ kG):=⟨CG⟩
def yE (f:aE->Option (Int × aE)):Prop:=∀a0 r,f a0=some r->∀(q:Pa) (m:M) (vs:List V) (P0:Pa),vs.map V.weak1=[.ptr P0 0]/\m.blk P0=some ((aE.C a0))/\m.gl 4=.eptr [(cA cS cE)] 0 0->SC prog 156 vs q m (λv Y=>v=.lw r.1/\Y=(m.set P0 ((aE.C r.2))))
theorem Ec (n:Nat):yE (lV n):=λa0 r h q m vs P0 ⟨hv,hmP0,_⟩=>SC.wva hv (SC.ac hmP0 λ_ _ _=>cY func156 call156 ntmps156 results156 rfl (wk .z q m (lV.eq_1 _ _) h))
instance:nK 156 (∀n,yE (lV n)):=⟨Ec⟩
def wY (f:aE->Option (aD × aE)):Prop:=∀a0 r,f a0=some r->∀(q:Pa) (m:M) (vs:List V) (P0:Pa),vs.map V.weak1=[.ptr P0 0]/\m.blk P0=some ((aE.C a0))/\m.gl 4=.eptr [(cA cS cE)] 0 0->SC prog 122 vs q m (λv Y=>v=.agg ((aD.C r.1))/\Y=(m.set P0 ((aE.C r.2))))
instance:RL kN 3:=⟨by decide⟩
@[go_sem low] theorem Kr {n:Nat}:List.drop n [V.lit (.string (bs ([112,117,98]:cJ))),V.lit (.string (bs ([117,51,50]:cJ))),V.lit (.string (bs ([117,54,52]:cJ)))]=Ng cS kN[n]? ++ cA cS (kN.drop (n+1)):=NF (f:=cS) (l:=kN)
theorem Dp (n:Nat):wY (mY n):=λa0 r h q m vs P0 ⟨hv,hmP0,_⟩=>SC.wva hv (SC.ac hmP0 λ_ _ _=>cY func122 call122 ntmps122 results122 rfl (wk (.l [.v 15 Int λy=>.li y,.b 0 aE λy=>(aE.C y),.b 2 aD λy=>[.li y.bT,.li y.fC,.ls y.cW,.lw y.pO,.list .self (y.aP.map aD.C)],.b 3 aD λy=>[.li y.bT,.li y.fC,.ls y.cW,.lw y.pO,.list .self (y.aP.map aD.C)]] [0,2,3,14] [] [] none .z .z) q m (mY.eq_1 _ _) h))
instance:nK 122 (∀n,wY (mY n)):=⟨Dp⟩
def tB (f:aE->Option ((List aD) × aE)):Prop:=∀a0 r,f a0=some r->∀(q:Pa) (m:M) (vs:List V) (P0:Pa),vs.map V.weak1=[.ptr P0 0,.fn (.func 122) [.ptr P0 0] []]/\m.blk P0=some ((aE.C a0))/\m.gl 4=.eptr [(cA cS cE)] 0 0->SC prog 121 vs q m (λv Y=>∃(id:Pa) (j:Nat),q <:+ id/\v=.list (.st (.anon id j)) (r.1.map aD.C)/\Y=(m.set P0 ((aE.C r.2))).tokset id j true)
theorem zU (n:Nat):tB (fI n):=λa0 r h q m vs P0 ⟨hv,hmP0,_⟩=>SC.wva hv (SC.ac hmP0 λ_ _ _=>SC_vo func121 call121 ntmps121 results121 0 rfl λ_=>wk (.c .z (.j 1 0 8 [.o 5 (List aD) λy=>(y.map aD.C),.b 0 aE λy=>(aE.C y)] [0,1] [] [] none (.s 5 (.l [.o 5 (List aD) λy=>(y.map aD.C),.b 0 aE λy=>(aE.C y)] [0,1] [] [] none .z .z)) .z)) q m (fI.eq_1 _ _) h)
def yK (f:aE->Int->Option aE):Prop:=∀a0 a1 r,f a0 a1=some r->∀(q:Pa) (m:M) (vs:List V) (P0:Pa),vs.map V.weak1=[.ptr P0 0,.li a1]/\m.blk P0=some ((aE.C a0))->SC prog 157 vs q m (λv Y=>v=.tup []/\Y=(m.set P0 ((aE.C r))))
theorem Ej:yK (lX):=λa0 a1 r h q m vs P0 ⟨hv,hmP0⟩=>SC.wva hv (SC.ac hmP0 λ_ _ _=>cY func157 call157 ntmps157 results157 rfl (wk .z q m (lX.eq_1 _ _) h))
instance:nK 157 (yK lX):=⟨Ej⟩
def yF (f:aE->Int->Option cJ):Prop:=∀a0 a1 r,f a0 a1=some r->∀(q:Pa) (m:M) (vs:List V) (P0:Pa),vs.map V.weak1=[.ptr P0 0,.li a1]/\m.blk P0=some ((aE.C a0))/\m.gl 4=.eptr [(cA cS cE)] 0 0/\m.gl 6=.eptr [(cA (cA cS) cT)] 0 0->SC prog 208 vs q m (λv Y=>v=.ls r/\Y=m)
theorem Ed (n:Nat):yF (lW n):=by
 rintro a0 a1 r h q m vs P0 ⟨hv,hmP0,hg4,hg6⟩;refine SC.wv hv ?_;refine SC.apart hmP0 λhpP0=>?_
 try simp only [go_sem,seval] at hmP0
 refine sL func208 call208 ntmps208 results208 ?_;unfold lW at h;refine aK (aQ λ_ z=>?_);simp only [go_sem,seval,bS hpP0,hmP0,hg4,hg6];apply z;simp only [aB,aA];refine aK (aK ?_);obtain ⟨x1,h5,h⟩:=aI h;obtain ⟨f2,f3,f4⟩:=bZ h5;have f6:a1<7:=f3;obtain ⟨w7,d8⟩:=PM (f:=(cA cS)) (s:=3) (Um (f:=(cA cS)) (s:=3) _ (by kernel_rfl)) f4;have d9:=(Um (f:=(cA cS)) (s:=3) _ (by kernel_rfl)) _ (ET f4);have d10:=List.take_left' (l₂:=w7) d9;have d11:(3<=(cA cS x1).length+w7.length)=True:=eq_true (by omega);refine aQ λ_ z=>?_;simp only [go_sem,seval,bS hpP0,f2,f3,f4,f6,d10,d11,d8,hmP0,hg4,hg6];apply z;simp only [aB,aA];refine dM ?_;obtain ⟨y14,j14,h⟩:=aI h;refine wM (λc X Y=>∃v13,lJ n x1 a0 c v13=some y14/\X 0=.ptr P0 0/\X 9=.agg ((cA cS x1))/\X 10=.li v13/\Y.blk P0=some ((aE.C a0))/\Y.gl=m.gl/\m.back q Y=m) n ⟨0,j14,?_⟩ ?_
 ·simp only [go_sem,seval,aW,aV,aO,aZ,bE hpP0,bS hpP0,f2,f3,f4,f6,d10,d11,d8,hmP0,hg4,hg6]
 rintro i12 c15 E16 m17 ⟨v13,j14,e18⟩ _
 rcases c15 with _ | c15
 ·cases j14
 rw [lJ] at j14;refine aK (aQ λ_ z=>?_);simp only [go_sem,seval,bS hpP0,f2,f3,f4,f6,d10,d11,d8,e18,hg4,hg6];apply z;simp only [aB,aA];refine aK (eV j14 (λc19 j14=>?_) (λc19 j14=>?_))
 ·refine cN ?_
  try simp only [aB,aA]
  refine aK (dM (aK ?_));obtain ⟨x20,h24,j14⟩:=aI j14;obtain ⟨f21,f22,f23⟩:=bZ h24;have f25:=(vE.1 f23).1;have f26:v13<3:=by have:=cA_one d9;omega
  obtain ⟨w27,d28⟩:=PM (f:=cS) (s:=1) (λ_ _=>rfl) f23;simp only [go_sem,seval] at d28;refine aQ λ_ z=>?_;simp only [go_sem,seval,bS hpP0,f2,f3,f4,f6,d10,d11,d8,c19,f21,f22,f23,f26,d28,e18,hg4,hg6];apply z;simp only [aB,aA];refine aK ?_;obtain ⟨y29,j29,j14⟩:=aI j14;refine xV 10 (λX Y=>X 0=.ptr P0 0/\X 6=.ls x20/\X 9=.agg ((cA cS x1))/\X 10=.li v13/\X 19=.lb y29/\Y.blk P0=some ((aE.C a0))/\Y.gl=m.gl/\m.back q Y=m) ?_ ?_
  ·rcases xI j29 with ⟨c30,j29⟩ | ⟨c30,j29⟩
   ·obtain ⟨x31,h32,j29⟩:=aI j29;refine aQ λ_ z=>?_;simp only [go_sem,seval,bS hpP0,f2,f3,f4,f6,d10,d11,d8,c19,f21,f22,f23,f26,d28,c30,e18,hg4,hg6];refine SC.by_ (zV n a0 x20 _ h32 _ _ _ P0 (by simp only [go_sem,seval,bS hpP0,f2,f3,f4,f6,d10,d11,d8,c19,f21,f22,f23,f26,d28,c30,e18,hg4,hg6])) ?_;simp only [go_sem,seval,bS hpP0,f2,f3,f4,f6,d10,d11,d8,c19,f21,f22,f23,f26,d28,c30,e18,hg4,hg6];apply z;simp only [aB,aA];cases j29;refine ⟨by decide,?_⟩;simp only [go_sem,seval,aW,aV,aO,aZ,bE hpP0,bS hpP0,f2,f3,f4,f6,d10,d11,d8,c19,f21,f22,f23,f26,d28,c30,e18,hg4,hg6]
   ·refine aQ λ_ z=>?_;simp only [go_sem,seval,bS hpP0,f2,f3,f4,f6,d10,d11,d8,c19,f21,f22,f23,f26,d28,c30,e18,hg4,hg6];apply z;simp only [aB,aA];cases j29;refine ⟨by decide,?_⟩;simp only [go_sem,seval,aW,aV,aO,aZ,bE hpP0,bS hpP0,f2,f3,f4,f6,d10,d11,d8,c19,f21,f22,f23,f26,d28,c30,e18,hg4,hg6]
  ·intro E33 m34 e35 _;simp only [aB,aA];refine eV j14 (λc36 j14=>?_) (λc36 j14=>?_)
   ·refine aK (aQ λ_ z=>?_);simp only [go_sem,seval,bS hpP0,f2,f3,f4,f6,d10,d11,d8,c19,f21,f22,f23,f26,d28,c36,e35,hg4,hg6];apply z;simp only [aB,aA];refine cR ?_
    try simp only [aU,aR]
    cases j14;simp only [xeq,xei] at h;cases h;refine ⟨by simp,?_⟩;simp only [go_sem,seval,aW,aV,aO,aZ,bE hpP0,bS hpP0,f2,f3,f4,f6,d10,d11,d8,c19,f21,f22,f23,f26,d28,c36,e35,hg4,hg6]
   ·refine cN ?_
    try simp only [aB,aA]
    refine aQ λ_ z=>?_;simp only [go_sem,seval,bS hpP0,f2,f3,f4,f6,d10,d11,d8,c19,f21,f22,f23,f26,d28,c36,e35,hg4,hg6];apply z;simp only [aB,aA];refine ⟨c15,Mt _,(i64.wrap (v13+1)),j14,?_⟩;simp only [go_sem,seval,aW,aV,aO,aZ,bE hpP0,bS hpP0,f2,f3,f4,f6,d10,d11,d8,c19,f21,f22,f23,f26,d28,c36,e35,hg4,hg6]
 ·refine lO ?_
  try simp only [seval,bD,aY,aB,aA]
  cases j14;simp only [xeq,xei] at h;refine aK (aQ λ_ z=>?_);simp only [go_sem,seval,bS hpP0,f2,f3,f4,f6,d10,d11,d8,c19,e18,hg4,hg6];apply z;simp only [aB,aA];refine cR ?_
  try simp only [aU,aR]
  cases h;refine ⟨by simp,?_⟩;simp only [go_sem,seval,aW,aV,aO,aZ,bE hpP0,bS hpP0,f2,f3,f4,f6,d10,d11,d8,c19,e18,hg4,hg6]
instance:nK 208 (∀n,yF (lW n)):=⟨Ed⟩
def kK (f:aE->Int->Option ((List aD) × aE)):Prop:=∀a0 a1 r,f a0 a1=some r->∀(q:Pa) (m:M) (vs:List V) (P0:Pa) (P1:Pa) (P2:Pa),vs.map V.weak1=[.ptr P0 0,.fn (.func 215) [] [.ptr P1 0,.ptr P2 0]]/\m.blk P0=some ((aE.C a0))/\m.blk P1=some ([.ptr P0 0])/\m.blk P2=some ([.li a1])/\(P0=P1)=False/\(P0=P2)=False/\(P1=P0)=False/\(P1=P2)=False/\(P2=P0)=False/\(P2=P1)=False/\m.gl 4=.eptr [(cA cS cE)] 0 0/\m.gl 6=.eptr [(cA (cA cS) cT)] 0 0->SC prog 121 vs q m (λv Y=>v=.list .none (r.1.map aD.C)/\Y=(m.set P0 ((aE.C r.2))))
def iL (f:aE->Int->Option (aD × aE)):Prop:=∀a0 a1 r,f a0 a1=some r->∀(q:Pa) (m:M) (vs:List V) (P0:Pa),vs.map V.weak1=[.ptr P0 0,.li a1]/\m.blk P0=some ((aE.C a0))/\m.gl 4=.eptr [(cA cS cE)] 0 0/\m.gl 6=.eptr [(cA (cA cS) cT)] 0 0->SC prog 179 vs q m (λv Y=>v=.agg ((aD.C r.1))/\Y=(m.set P0 ((aE.C r.2))))
def lK (f:aE->Int->Int->Option (aD × aE)):Prop:=∀a0 a1 a2 r,f a0 a1 a2=some r->∀(q:Pa) (m:M) (vs:List V) (P0:Pa),vs.map V.weak1=[.ptr P0 0,.li a1,.li a2]/\m.blk P0=some ((aE.C a0))/\m.gl 4=.eptr [(cA cS cE)] 0 0/\m.gl 6=.eptr [(cA (cA cS) cT)] 0 0->SC prog 200 vs q m (λv Y=>v=.agg ((aD.C r.1))/\Y=(m.set P0 ((aE.C r.2))))
def kC (f:aE->Int->Option (aD × aE)):Prop:=∀a0 a1 r,f a0 a1=some r->∀(q:Pa) (m:M) (vs:List V) (P0:Pa),vs.map V.weak1=[.ptr P0 0,.li a1]/\m.blk P0=some ((aE.C a0))/\m.gl 4=.eptr [(cA cS cE)] 0 0/\m.gl 6=.eptr [(cA (cA cS) cT)] 0 0->SC prog 207 vs q m (λv Y=>v=.agg ((aD.C r.1))/\Y=(m.set P0 ((aE.C r.2))))
def qR (f:aE->Int->Option (aD × aE)):Prop:=∀a0 a1 r,f a0 a1=some r->∀(q:Pa) (m:M) (vs:List V) (P0:Pa) (P1:Pa) (P2:Pa),vs.map V.weak1=[.ptr P1 0,.ptr P2 0]/\m.blk P0=some ((aE.C a0))/\m.blk P1=some ([.ptr P0 0])/\m.blk P2=some ([.li a1])/\(P0=P1)=False/\(P0=P2)=False/\(P1=P0)=False/\(P1=P2)=False/\(P2=P0)=False/\(P2=P1)=False/\m.gl 4=.eptr [(cA cS cE)] 0 0/\m.gl 6=.eptr [(cA (cA cS) cT)] 0 0->SC prog 215 vs q m (λv Y=>v=.agg ((aD.C r.1))/\Y=(m.set P0 ((aE.C r.2))))
theorem uR {eS} (Ab:qR eS) (n:Nat):kK (gZ eS n):=by
 rintro a0 a1 r h q m vs P0 P1 P2 ⟨hv,hmP0,hmP1,hmP2,hn0_1,hn0_2,hn1_0,hn1_2,hn2_0,hn2_1,hg4,hg6⟩;refine SC.wv hv ?_;refine SC.apart hmP0 λhpP0=>?_;refine SC.apart hmP1 λhpP1=>?_;refine SC.apart hmP2 λhpP2=>?_;have l0:=GW hmP0
 try simp only [go_sem,seval] at hmP0 l0
 skip
 try simp only [go_sem,seval] at hmP2
 refine sL func121 call121 ntmps121 results121 ?_;unfold gZ at h;refine aK (aQ λ_ z=>?_);simp only [go_sem,seval,bS hpP0,bS hpP1,bS hpP2,hn0_1,hn0_2,hn1_0,hn1_2,hn2_0,hn2_1,hmP0,hmP1,hmP2,hg4,hg6];apply z;simp only [aB,aA];refine aK (aQ λ_ z=>?_);simp only [go_sem,seval,bS hpP0,bS hpP1,bS hpP2,hn0_1,hn0_2,hn1_0,hn1_2,hn2_0,hn2_1,hmP0,hmP1,hmP2,hg4,hg6];apply z;simp only [aB,aA];refine aK ?_;obtain ⟨x1,h2,h⟩:=aI h;refine aQ λ_ z=>?_;simp only [go_sem,seval,bS hpP0,bS hpP1,bS hpP2,hn0_1,hn0_2,hn1_0,hn1_2,hn2_0,hn2_1,hmP0,hmP1,hmP2,hg4,hg6];refine SC.by_ (nS n a0 ([40]:cJ) _ h2 _ _ _ P0 (by simp only [go_sem,seval,bS hpP0,bS hpP1,bS hpP2,hn0_1,hn0_2,hn1_0,hn1_2,hn2_0,hn2_1,hmP0,hmP1,hmP2,hg4,hg6])) ?_;simp only [go_sem,seval,bS hpP0,bS hpP1,bS hpP2,hn0_1,hn0_2,hn1_0,hn1_2,hn2_0,hn2_1,hmP0,hmP1,hmP2,hg4,hg6];apply z;simp only [aB,aA];refine aK (aK ?_);obtain ⟨x3,h4,h⟩:=aI h;refine aQ λ_ z=>?_;simp only [go_sem,seval,bS hpP0,bS hpP1,bS hpP2,hn0_1,hn0_2,hn1_0,hn1_2,hn2_0,hn2_1,hmP0,hmP1,hmP2,hg4,hg6];refine SC.by_ (nP n x1 ([41]:cJ) _ h4 _ _ _ P0 (by simp only [go_sem,seval,bS hpP0,bS hpP1,bS hpP2,hn0_1,hn0_2,hn1_0,hn1_2,hn2_0,hn2_1,hmP0,hmP1,hmP2,hg4,hg6])) ?_;simp only [go_sem,seval,bS hpP0,bS hpP1,bS hpP2,hn0_1,hn0_2,hn1_0,hn1_2,hn2_0,hn2_1,hmP0,hmP1,hmP2,hg4,hg6];apply z;simp only [aB,aA];refine eV h (λc5 h=>?_) (λc5 h=>?_)
 ·refine aK (aQ λ_ z=>?_);simp only [go_sem,seval,bS hpP0,bS hpP1,bS hpP2,hn0_1,hn0_2,hn1_0,hn1_2,hn2_0,hn2_1,c5,hmP0,hmP1,hmP2,hg4,hg6];apply z;simp only [aB,aA];refine cR ?_
  try simp only [aU,aR]
  cases h;refine ⟨by simp,?_⟩;simp only [go_sem,seval,aW,aV,aO,aZ,bE hpP0,bE hpP1,bE hpP2,l0,bS hpP0,bS hpP1,bS hpP2,hn0_1,hn0_2,hn1_0,hn1_2,hn2_0,hn2_1,c5,hmP0,hmP1,hmP2,hg4,hg6]
 ·refine cN ?_
  try simp only [aB,aA]
  refine aK ?_;obtain ⟨y6,j6,h⟩:=aI h;refine xV 8 (λX Y=>∃(oy6_5:Pa) (jy6_5:Nat),X 0=.ptr P0 0/\X 5=.list (.st (.anon oy6_5 jy6_5)) (y6.1.map aD.C)/\Y.tok oy6_5 jy6_5=true/\q <:+ oy6_5/\Y.blk P0=some ((aE.C y6.2))/\Y.blk P1=some ([.ptr P0 0])/\Y.blk P2=some ([.li a1])/\Y.gl=m.gl/\m.back q Y=(m.set P0 ((aE.C y6.2)))) ?_ ?_
  ·refine dM ?_;obtain ⟨y10,j10,j6⟩:=aI j6;refine BF 5 ([].map aD.C) rfl (by simp only [go_sem,seval,bS hpP0,bS hpP1,bS hpP2,hn0_1,hn0_2,hn1_0,hn1_2,hn2_0,hn2_1,c5,hmP0,hmP1,hmP2,hg4,hg6]) ?_;refine wM (λc X Y=>∃v8 v9 o_v8 j_v8,fH eS n a1 c v8 v9=some y10/\X 0=.ptr P0 0/\X 1=.fn (.func 215) [] [.ptr P1 0,.ptr P2 0]/\X 5=.list (.st (.anon o_v8 j_v8)) (v8.map aD.C)/\Y.tok o_v8 j_v8=true/\q <:+ o_v8/\Y.blk P0=some ((aE.C v9))/\Y.blk P1=some ([.ptr P0 0])/\Y.blk P2=some ([.li a1])/\Y.gl=m.gl/\m.back q Y=(m.set P0 ((aE.C v9)))) n ⟨[],x3.2,(6::q),0,j10,?_⟩ ?_
   ·simp only [go_sem,seval,aW,aV,aO,aZ,bE hpP0,bE hpP1,bE hpP2,l0,bS hpP0,bS hpP1,bS hpP2,hn0_1,hn0_2,hn1_0,hn1_2,hn2_0,hn2_1,c5,hmP0,hmP1,hmP2,hg4,hg6]
   rintro i7 c11 E12 m13 ⟨v8,v9,o_v8,j_v8,j10,e14⟩ _
   rcases c11 with _ | c11
   ·cases j10
   rw [fH] at j10;refine aK (aK (aQ λ_ z=>?_));simp only [go_sem,seval,bS hpP0,bS hpP1,bS hpP2,hn0_1,hn0_2,hn1_0,hn1_2,hn2_0,hn2_1,c5,e14,hg4,hg6];apply z;simp only [aB,aA];refine eV j10 (λc15 j10=>?_) (λc15 j10=>?_)
   ·refine cN ?_
    try simp only [aB,aA]
    refine dM (aK ?_);obtain ⟨x16,h17,j10⟩:=aI j10;obtain ⟨f18,j10⟩:=cG j10;have f19:v8.length+1<=1073741824:=by first | omega | (simp only [mS,dW,eN] at f18 ⊢;omega)
    have f20:v8.length<=1073741823:=by first | omega | (simp only [mS,dW,eN] at f18 ⊢;omega)
    refine aQ λ_ z=>?_;simp only [go_sem,seval,bS hpP0,bS hpP1,bS hpP2,hn0_1,hn0_2,hn1_0,hn1_2,hn2_0,hn2_1,c5,c15,f18,f19,f20,e14,hg4,hg6];refine SC.by_ (Ab v9 a1 _ h17 _ _ _ P0 P1 P2 (by simp only [go_sem,seval,bS hpP0,bS hpP1,bS hpP2,hn0_1,hn0_2,hn1_0,hn1_2,hn2_0,hn2_1,c5,c15,f18,f19,f20,e14,hg4,hg6])) ?_;simp only [go_sem,seval,bS hpP0,bS hpP1,bS hpP2,hn0_1,hn0_2,hn1_0,hn1_2,hn2_0,hn2_1,c5,c15,f18,f19,f20,e14,hg4,hg6];apply z;simp only [aB,aA];refine aK ?_;obtain ⟨x21,h22,j10⟩:=aI j10;refine aQ λ_ z=>?_;simp only [go_sem,seval,bS hpP0,bS hpP1,bS hpP2,hn0_1,hn0_2,hn1_0,hn1_2,hn2_0,hn2_1,c5,c15,f18,f19,f20,e14,hg4,hg6];refine SC.by_ (nP n x16.2 ([44]:cJ) _ h22 _ _ _ P0 (by simp only [go_sem,seval,bS hpP0,bS hpP1,bS hpP2,hn0_1,hn0_2,hn1_0,hn1_2,hn2_0,hn2_1,c5,c15,f18,f19,f20,e14,hg4,hg6])) ?_;simp only [go_sem,seval,bS hpP0,bS hpP1,bS hpP2,hn0_1,hn0_2,hn1_0,hn1_2,hn2_0,hn2_1,c5,c15,f18,f19,f20,e14,hg4,hg6];apply z;simp only [aB,aA];refine eV j10 (λc23 j10=>?_) (λc23 j10=>?_)
    ·refine lO ?_
     try simp only [seval,bD,aY,aB,aA]
     cases j10;cases j6;refine ⟨by decide,(9::i7::7::q),0,?_⟩;simp only [go_sem,seval,aW,aV,aO,aZ,bE hpP0,bE hpP1,bE hpP2,l0,bS hpP0,bS hpP1,bS hpP2,hn0_1,hn0_2,hn1_0,hn1_2,hn2_0,hn2_1,c5,c15,f18,f19,f20,c23,e14,hg4,hg6]
    ·refine cN ?_
     try simp only [aB,aA]
     refine ⟨c11,Mt _,(v8++[x16.1]),x21.2,(9::i7::7::q),0,j10,?_⟩;simp only [go_sem,seval,aW,aV,aO,aZ,bE hpP0,bE hpP1,bE hpP2,l0,bS hpP0,bS hpP1,bS hpP2,hn0_1,hn0_2,hn1_0,hn1_2,hn2_0,hn2_1,c5,c15,f18,f19,f20,c23,e14,hg4,hg6]
   ·refine lO ?_
    try simp only [seval,bD,aY,aB,aA]
    cases j10;cases j6;refine ⟨by decide,o_v8,j_v8,?_⟩;simp only [go_sem,seval,aW,aV,aO,aZ,bE hpP0,bE hpP1,bE hpP2,l0,bS hpP0,bS hpP1,bS hpP2,hn0_1,hn0_2,hn1_0,hn1_2,hn2_0,hn2_1,c5,c15,e14,hg4,hg6]
  ·rintro E24 m25 ⟨oy6_5,jy6_5,e26⟩ _;simp only [aB,aA];refine aK ?_;obtain ⟨x27,h28,h⟩:=aI h;refine aQ λ_ z=>?_;simp only [go_sem,seval,bS hpP0,bS hpP1,bS hpP2,hn0_1,hn0_2,hn1_0,hn1_2,hn2_0,hn2_1,c5,e26,hg4,hg6];refine SC.by_ (nS n y6.2 ([41]:cJ) _ h28 _ _ _ P0 (by simp only [go_sem,seval,bS hpP0,bS hpP1,bS hpP2,hn0_1,hn0_2,hn1_0,hn1_2,hn2_0,hn2_1,c5,e26,hg4,hg6])) ?_;simp only [go_sem,seval,bS hpP0,bS hpP1,bS hpP2,hn0_1,hn0_2,hn1_0,hn1_2,hn2_0,hn2_1,c5,e26,hg4,hg6];apply z;simp only [aB,aA];refine aK (aQ λ_ z=>?_);simp only [go_sem,seval,bS hpP0,bS hpP1,bS hpP2,hn0_1,hn0_2,hn1_0,hn1_2,hn2_0,hn2_1,c5,e26,hg4,hg6];apply z;simp only [aB,aA];refine cR ?_
   try simp only [aU,aR]
   cases h;refine ⟨by simp,?_⟩;simp only [go_sem,seval,aW,aV,aO,aZ,bE hpP0,bE hpP1,bE hpP2,l0,bS hpP0,bS hpP1,bS hpP2,hn0_1,hn0_2,hn1_0,hn1_2,hn2_0,hn2_1,c5,e26,hg4,hg6]
theorem CJ {cP} (rE:lK cP) (n:Nat):iL (oR cP n):=haveI:nK 200 (lK cP):=⟨rE⟩;λa0 a1 r h q m vs P0 ⟨hv,hmP0,_,_⟩=>SC.wva hv (SC.ac hmP0 λ_ _ _=>cY func179 call179 ntmps179 results179 rfl (wk .z q m (oR.eq_1 _ _ _ _) h))
theorem BM {cO} (qK:kC cO) {cP} (rE:lK cP) (n:Nat):lK (nT cO cP n):=haveI:nK 207 (kC cO):=⟨qK⟩;haveI:nK 200 (lK cP):=⟨rE⟩;λa0 a1 a2 r h q m vs P0 ⟨hv,hmP0,_,_⟩=>SC.wva hv (SC.ac hmP0 λ_ _ _=>cY func200 call200 ntmps200 results200 rfl (wk (.c .z (.l [.v 8 cJ λy=>.ls y,.b 0 aE λy=>(aE.C y),.b 7 aD λy=>(aD.C y)] [0,1,2,6,7] [6] [] none .z .z)) q m (nT.eq_1 _ _ _ _ _ _) h))
instance:RL gU 2:=⟨by decide⟩
@[go_sem low] theorem IT {n:Nat}:List.drop n [V.lit (.string (bs ([126]:cJ))),V.lit (.string (bs ([45]:cJ)))]=Ng cS gU[n]? ++ cA cS (gU.drop (n+1)):=NF (f:=cS) (l:=gU)
theorem AA {dN} (rX:iL dN) {cO} (qK:kC cO) {gF} (uZ:kK gF) (n:Nat):kC (mG dN cO gF n):=haveI:nK 179 (iL dN):=⟨rX⟩;haveI:nK 207 (kC cO):=⟨qK⟩;haveI:nK 121 (kK gF):=⟨uZ⟩;λa0 a1 r h q m vs P0 ⟨hv,hmP0,_,_⟩=>SC.wva hv (SC.ac hmP0 λ_ _ _=>cY func207 call207 ntmps207 results207 rfl (wk (.c .z (.l [.v 24 Int λy=>.li y,.b 0 aE λy=>(aE.C y),.b 6 aD λy=>[.li y.bT,.li y.fC,.ls y.cW,.lw y.pO,.list .self (y.aP.map aD.C)],.b 4 aD λy=>[.li y.bT,.li y.fC,.ls y.cW,.lw y.pO,.list .self (y.aP.map aD.C)]] [0,2,3,4,6,23] [2,3] [] none .z (.j 2 14 26 [.v 51 Bool λy=>.lb y] [0,2,3,4,6] [0,6,2,3,4] [] none .z (.c .z (.j 1 2 47 [.b 0 aE λy=>(aE.C y),.b 6 aD λy=>(aD.C y)] [0,4,6] [4] [(6,4)] none .z .z))))) q m (mG.eq_1 _ _ _ _ _ _) h))
theorem zS {dN} (rX:iL dN) (n:Nat):qR (kY dN n):=haveI:nK 179 (iL dN):=⟨rX⟩;λa0 a1 r h q m vs P0 P1 P2 ⟨hv,hmP0,hmP1,hmP2,_,_,_,_,_,_,_,_⟩=>SC.wva hv (SC.ac hmP0 λ_ _ _=>SC.ac hmP1 λ_ _ _=>SC.ac hmP2 λ_ _ _=>cY func215 call215 ntmps215 results215 rfl (wk .z q m (kY.eq_1 _ _ _ _) h))
theorem pR:∀n,kK (yU n)/\iL (eM n)/\lK (Ff n)/\kC (Ee n)/\qR (CF n)
 | 0=>⟨λ_ _ _ h=>dS h,λ_ _ _ h=>dS h,λ_ _ _ _ h=>dS h,λ_ _ _ h=>dS h,λ_ _ _ h=>dS h⟩
 | n+1=>
   have ih:=pR n
   ⟨uR ih.2.2.2.2 n,CJ ih.2.2.1 n,BM ih.2.2.2.1 ih.2.2.1 n,AA ih.2.1 ih.2.2.2.1 ih.1 n,zS ih.2.1 n⟩
theorem Ei (n:Nat):iL (eM n):=(pR n).2.1
instance:nK 179 (∀n,iL (eM n)):=⟨Ei⟩
def wZ (f:aE->aD->Int->Option (aD × aE)):Prop:=∀a0 a1 a2 r,f a0 a1 a2=some r->∀(q:Pa) (m:M) (vs:List V) (P0:Pa),vs.map V.weak1=[.ptr P0 0,.agg ((aD.C a1)),.li a2]/\m.blk P0=some ((aE.C a0))/\m.gl 4=.eptr [(cA cS cE)] 0 0/\m.gl 6=.eptr [(cA (cA cS) cT)] 0 0->SC prog 178 vs q m (λv Y=>v=.agg ((aD.C r.1))/\Y=(m.set P0 ((aE.C r.2))))
theorem Dq (n:Nat):wZ (kZ n):=λa0 a1 a2 r h q m vs P0 ⟨hv,hmP0,_,_⟩=>SC.wva hv (SC.ac hmP0 λ_ _ _=>cY func178 call178 ntmps178 results178 rfl (wk .z q m (kZ.eq_1 _ _ _ _) h))
instance:nK 178 (∀n,wZ (kZ n)):=⟨Dq⟩
def CE (f:aE->Int->Option (aD × aE)):Prop:=∀a0 a1 r,f a0 a1=some r->∀(q:Pa) (m:M) (vs:List V) (P0:Pa) (P1:Pa) (P2:Pa),vs.map V.weak1=[.ptr P1 0,.ptr P2 0]/\m.blk P0=some ((aE.C a0))/\m.blk P1=some ([.ptr P0 0])/\m.blk P2=some ([.li a1])/\(P0=P1)=False/\(P0=P2)=False/\(P1=P0)=False/\(P1=P2)=False/\(P2=P0)=False/\(P2=P1)=False/\m.gl 4=.eptr [(cA cS cE)] 0 0/\m.gl 6=.eptr [(cA (cA cS) cT)] 0 0->SC prog 201 vs q m (λv Y=>v=.agg ((aD.C r.1))/\Y=(m.set P0 ((aE.C r.2))))
theorem BL (n:Nat):CE (nR n):=λa0 a1 r h q m vs P0 P1 P2 ⟨hv,hmP0,hmP1,hmP2,_,_,_,_,_,_,_,_⟩=>SC.wva hv (SC.ac hmP0 λ_ _ _=>SC.ac hmP1 λ_ _ _=>SC.ac hmP2 λ_ _ _=>cY func201 call201 ntmps201 results201 rfl (wk .z q m (nR.eq_1 _ _ _) h))
def sF (f:aE->Int->Option ((List aD) × aE)):Prop:=∀a0 a1 r,f a0 a1=some r->∀(q:Pa) (m:M) (vs:List V) (P0:Pa) (P1:Pa) (P2:Pa),vs.map V.weak1=[.ptr P0 0,.fn (.func 201) [] [.ptr P1 0,.ptr P2 0]]/\m.blk P0=some ((aE.C a0))/\m.blk P1=some ([.ptr P0 0])/\m.blk P2=some ([.li a1])/\(P0=P1)=False/\(P0=P2)=False/\(P1=P0)=False/\(P1=P2)=False/\(P2=P0)=False/\(P2=P1)=False/\m.gl 4=.eptr [(cA cS cE)] 0 0/\m.gl 6=.eptr [(cA (cA cS) cT)] 0 0->SC prog 121 vs q m (λv Y=>v=.list .none (r.1.map aD.C)/\Y=(m.set P0 ((aE.C r.2))))
theorem xZ (n:Nat):sF (gW n):=by
 rintro a0 a1 r h q m vs P0 P1 P2 ⟨hv,hmP0,hmP1,hmP2,hn0_1,hn0_2,hn1_0,hn1_2,hn2_0,hn2_1,hg4,hg6⟩;refine SC.wv hv ?_;refine SC.apart hmP0 λhpP0=>?_;refine SC.apart hmP1 λhpP1=>?_;refine SC.apart hmP2 λhpP2=>?_;have l0:=GW hmP0
 try simp only [go_sem,seval] at hmP0 l0
 skip
 try simp only [go_sem,seval] at hmP2
 refine sL func121 call121 ntmps121 results121 ?_;unfold gW at h;refine aK (aQ λ_ z=>?_);simp only [go_sem,seval,bS hpP0,bS hpP1,bS hpP2,hn0_1,hn0_2,hn1_0,hn1_2,hn2_0,hn2_1,hmP0,hmP1,hmP2,hg4,hg6];apply z;simp only [aB,aA];refine aK (aQ λ_ z=>?_);simp only [go_sem,seval,bS hpP0,bS hpP1,bS hpP2,hn0_1,hn0_2,hn1_0,hn1_2,hn2_0,hn2_1,hmP0,hmP1,hmP2,hg4,hg6];apply z;simp only [aB,aA];refine aK ?_;obtain ⟨x1,h2,h⟩:=aI h;refine aQ λ_ z=>?_;simp only [go_sem,seval,bS hpP0,bS hpP1,bS hpP2,hn0_1,hn0_2,hn1_0,hn1_2,hn2_0,hn2_1,hmP0,hmP1,hmP2,hg4,hg6];refine SC.by_ (nS n a0 ([40]:cJ) _ h2 _ _ _ P0 (by simp only [go_sem,seval,bS hpP0,bS hpP1,bS hpP2,hn0_1,hn0_2,hn1_0,hn1_2,hn2_0,hn2_1,hmP0,hmP1,hmP2,hg4,hg6])) ?_;simp only [go_sem,seval,bS hpP0,bS hpP1,bS hpP2,hn0_1,hn0_2,hn1_0,hn1_2,hn2_0,hn2_1,hmP0,hmP1,hmP2,hg4,hg6];apply z;simp only [aB,aA];refine aK (aK ?_);obtain ⟨x3,h4,h⟩:=aI h;refine aQ λ_ z=>?_;simp only [go_sem,seval,bS hpP0,bS hpP1,bS hpP2,hn0_1,hn0_2,hn1_0,hn1_2,hn2_0,hn2_1,hmP0,hmP1,hmP2,hg4,hg6];refine SC.by_ (nP n x1 ([41]:cJ) _ h4 _ _ _ P0 (by simp only [go_sem,seval,bS hpP0,bS hpP1,bS hpP2,hn0_1,hn0_2,hn1_0,hn1_2,hn2_0,hn2_1,hmP0,hmP1,hmP2,hg4,hg6])) ?_;simp only [go_sem,seval,bS hpP0,bS hpP1,bS hpP2,hn0_1,hn0_2,hn1_0,hn1_2,hn2_0,hn2_1,hmP0,hmP1,hmP2,hg4,hg6];apply z;simp only [aB,aA];refine eV h (λc5 h=>?_) (λc5 h=>?_)
 ·refine aK (aQ λ_ z=>?_);simp only [go_sem,seval,bS hpP0,bS hpP1,bS hpP2,hn0_1,hn0_2,hn1_0,hn1_2,hn2_0,hn2_1,c5,hmP0,hmP1,hmP2,hg4,hg6];apply z;simp only [aB,aA];refine cR ?_
  try simp only [aU,aR]
  cases h;refine ⟨by simp,?_⟩;simp only [go_sem,seval,aW,aV,aO,aZ,bE hpP0,bE hpP1,bE hpP2,l0,bS hpP0,bS hpP1,bS hpP2,hn0_1,hn0_2,hn1_0,hn1_2,hn2_0,hn2_1,c5,hmP0,hmP1,hmP2,hg4,hg6]
 ·refine cN ?_
  try simp only [aB,aA]
  refine aK ?_;obtain ⟨y6,j6,h⟩:=aI h;refine xV 8 (λX Y=>∃(oy6_5:Pa) (jy6_5:Nat),X 0=.ptr P0 0/\X 5=.list (.st (.anon oy6_5 jy6_5)) (y6.1.map aD.C)/\Y.tok oy6_5 jy6_5=true/\q <:+ oy6_5/\Y.blk P0=some ((aE.C y6.2))/\Y.blk P1=some ([.ptr P0 0])/\Y.blk P2=some ([.li a1])/\Y.gl=m.gl/\m.back q Y=(m.set P0 ((aE.C y6.2)))) ?_ ?_
  ·refine dM ?_;obtain ⟨y10,j10,j6⟩:=aI j6;refine BF 5 ([].map aD.C) rfl (by simp only [go_sem,seval,bS hpP0,bS hpP1,bS hpP2,hn0_1,hn0_2,hn1_0,hn1_2,hn2_0,hn2_1,c5,hmP0,hmP1,hmP2,hg4,hg6]) ?_;refine wM (λc X Y=>∃v8 v9 o_v8 j_v8,fT n a1 c v8 v9=some y10/\X 0=.ptr P0 0/\X 1=.fn (.func 201) [] [.ptr P1 0,.ptr P2 0]/\X 5=.list (.st (.anon o_v8 j_v8)) (v8.map aD.C)/\Y.tok o_v8 j_v8=true/\q <:+ o_v8/\Y.blk P0=some ((aE.C v9))/\Y.blk P1=some ([.ptr P0 0])/\Y.blk P2=some ([.li a1])/\Y.gl=m.gl/\m.back q Y=(m.set P0 ((aE.C v9)))) n ⟨[],x3.2,(6::q),0,j10,?_⟩ ?_
   ·simp only [go_sem,seval,aW,aV,aO,aZ,bE hpP0,bE hpP1,bE hpP2,l0,bS hpP0,bS hpP1,bS hpP2,hn0_1,hn0_2,hn1_0,hn1_2,hn2_0,hn2_1,c5,hmP0,hmP1,hmP2,hg4,hg6]
   rintro i7 c11 E12 m13 ⟨v8,v9,o_v8,j_v8,j10,e14⟩ _
   rcases c11 with _ | c11
   ·cases j10
   rw [fT] at j10;refine aK (aK (aQ λ_ z=>?_));simp only [go_sem,seval,bS hpP0,bS hpP1,bS hpP2,hn0_1,hn0_2,hn1_0,hn1_2,hn2_0,hn2_1,c5,e14,hg4,hg6];apply z;simp only [aB,aA];refine eV j10 (λc15 j10=>?_) (λc15 j10=>?_)
   ·refine cN ?_
    try simp only [aB,aA]
    refine dM (aK ?_);obtain ⟨x16,h17,j10⟩:=aI j10;obtain ⟨f18,j10⟩:=cG j10;have f19:v8.length+1<=1073741824:=by first | omega | (simp only [mS,dW,eN] at f18 ⊢;omega)
    have f20:v8.length<=1073741823:=by first | omega | (simp only [mS,dW,eN] at f18 ⊢;omega)
    refine aQ λ_ z=>?_;simp only [go_sem,seval,bS hpP0,bS hpP1,bS hpP2,hn0_1,hn0_2,hn1_0,hn1_2,hn2_0,hn2_1,c5,c15,f18,f19,f20,e14,hg4,hg6];refine SC.by_ (BL n v9 a1 _ h17 _ _ _ P0 P1 P2 (by simp only [go_sem,seval,bS hpP0,bS hpP1,bS hpP2,hn0_1,hn0_2,hn1_0,hn1_2,hn2_0,hn2_1,c5,c15,f18,f19,f20,e14,hg4,hg6])) ?_;simp only [go_sem,seval,bS hpP0,bS hpP1,bS hpP2,hn0_1,hn0_2,hn1_0,hn1_2,hn2_0,hn2_1,c5,c15,f18,f19,f20,e14,hg4,hg6];apply z;simp only [aB,aA];refine aK ?_;obtain ⟨x21,h22,j10⟩:=aI j10;refine aQ λ_ z=>?_;simp only [go_sem,seval,bS hpP0,bS hpP1,bS hpP2,hn0_1,hn0_2,hn1_0,hn1_2,hn2_0,hn2_1,c5,c15,f18,f19,f20,e14,hg4,hg6];refine SC.by_ (nP n x16.2 ([44]:cJ) _ h22 _ _ _ P0 (by simp only [go_sem,seval,bS hpP0,bS hpP1,bS hpP2,hn0_1,hn0_2,hn1_0,hn1_2,hn2_0,hn2_1,c5,c15,f18,f19,f20,e14,hg4,hg6])) ?_;simp only [go_sem,seval,bS hpP0,bS hpP1,bS hpP2,hn0_1,hn0_2,hn1_0,hn1_2,hn2_0,hn2_1,c5,c15,f18,f19,f20,e14,hg4,hg6];apply z;simp only [aB,aA];refine eV j10 (λc23 j10=>?_) (λc23 j10=>?_)
    ·refine lO ?_
     try simp only [seval,bD,aY,aB,aA]
     cases j10;cases j6;refine ⟨by decide,(9::i7::7::q),0,?_⟩;simp only [go_sem,seval,aW,aV,aO,aZ,bE hpP0,bE hpP1,bE hpP2,l0,bS hpP0,bS hpP1,bS hpP2,hn0_1,hn0_2,hn1_0,hn1_2,hn2_0,hn2_1,c5,c15,f18,f19,f20,c23,e14,hg4,hg6]
    ·refine cN ?_
     try simp only [aB,aA]
     refine ⟨c11,Mt _,(v8++[x16.1]),x21.2,(9::i7::7::q),0,j10,?_⟩;simp only [go_sem,seval,aW,aV,aO,aZ,bE hpP0,bE hpP1,bE hpP2,l0,bS hpP0,bS hpP1,bS hpP2,hn0_1,hn0_2,hn1_0,hn1_2,hn2_0,hn2_1,c5,c15,f18,f19,f20,c23,e14,hg4,hg6]
   ·refine lO ?_
    try simp only [seval,bD,aY,aB,aA]
    cases j10;cases j6;refine ⟨by decide,o_v8,j_v8,?_⟩;simp only [go_sem,seval,aW,aV,aO,aZ,bE hpP0,bE hpP1,bE hpP2,l0,bS hpP0,bS hpP1,bS hpP2,hn0_1,hn0_2,hn1_0,hn1_2,hn2_0,hn2_1,c5,c15,e14,hg4,hg6]
  ·rintro E24 m25 ⟨oy6_5,jy6_5,e26⟩ _;simp only [aB,aA];refine aK ?_;obtain ⟨x27,h28,h⟩:=aI h;refine aQ λ_ z=>?_;simp only [go_sem,seval,bS hpP0,bS hpP1,bS hpP2,hn0_1,hn0_2,hn1_0,hn1_2,hn2_0,hn2_1,c5,e26,hg4,hg6];refine SC.by_ (nS n y6.2 ([41]:cJ) _ h28 _ _ _ P0 (by simp only [go_sem,seval,bS hpP0,bS hpP1,bS hpP2,hn0_1,hn0_2,hn1_0,hn1_2,hn2_0,hn2_1,c5,e26,hg4,hg6])) ?_;simp only [go_sem,seval,bS hpP0,bS hpP1,bS hpP2,hn0_1,hn0_2,hn1_0,hn1_2,hn2_0,hn2_1,c5,e26,hg4,hg6];apply z;simp only [aB,aA];refine aK (aQ λ_ z=>?_);simp only [go_sem,seval,bS hpP0,bS hpP1,bS hpP2,hn0_1,hn0_2,hn1_0,hn1_2,hn2_0,hn2_1,c5,e26,hg4,hg6];apply z;simp only [aB,aA];refine cR ?_
   try simp only [aU,aR]
   cases h;refine ⟨by simp,?_⟩;simp only [go_sem,seval,aW,aV,aO,aZ,bE hpP0,bE hpP1,bE hpP2,l0,bS hpP0,bS hpP1,bS hpP2,hn0_1,hn0_2,hn1_0,hn1_2,hn2_0,hn2_1,c5,e26,hg4,hg6]
def wX (f:aE->aD->Int->Option (aD × aE)):Prop:=∀a0 a1 a2 r,f a0 a1 a2=some r->∀(q:Pa) (m:M) (vs:List V) (P0:Pa),vs.map V.weak1=[.ptr P0 0,.agg ((aD.C a1)),.li a2]/\m.blk P0=some ((aE.C a0))/\m.gl 4=.eptr [(cA cS cE)] 0 0/\m.gl 6=.eptr [(cA (cA cS) cT)] 0 0->SC prog 182 vs q m (λv Y=>v=.agg ((aD.C r.1))/\Y=(m.set P0 ((aE.C r.2))))
theorem Do (n:Nat):wX (mX n):=λa0 a1 a2 r h q m vs P0 ⟨hv,hmP0,_,_⟩=>SC.wva hv (SC.ac hmP0 λ_ _ _=>haveI:nK 121 (∀n,sF (gW n)):=⟨xZ⟩;cY func182 call182 ntmps182 results182 rfl (wk (.j 1 0 37 [.b 0 aE λy=>(aE.C y),.b 4 aD λy=>(aD.C y)] [0,3,4,6] [3,6] [(4,4)] none .z .z) q m (mX.eq_1 _ _ _ _) h))
instance:nK 182 (∀n,wX (mX n)):=⟨Do⟩
def hM (f:aE->Int->Option (aD × aE)):Prop:=∀a0 a1 r,f a0 a1=some r->∀(q:Pa) (m:M) (vs:List V) (P0:Pa),vs.map V.weak1=[.ptr P0 0,.li a1]/\m.blk P0=some ((aE.C a0))/\m.gl 4=.eptr [(cA cS cE)] 0 0/\m.gl 6=.eptr [(cA (cA cS) cT)] 0 0->SC prog 123 vs q m (λv Y=>v=.agg ((aD.C r.1))/\Y=(m.set P0 ((aE.C r.2))))
def nQ (f:aE->Int->Option (aD × aE)):Prop:=∀a0 a1 r,f a0 a1=some r->∀(q:Pa) (m:M) (vs:List V) (P0:Pa),vs.map V.weak1=[.ptr P0 0,.li a1]/\m.blk P0=some ((aE.C a0))/\m.gl 4=.eptr [(cA cS cE)] 0 0/\m.gl 6=.eptr [(cA (cA cS) cT)] 0 0->SC prog 158 vs q m (λv Y=>v=.agg ((aD.C r.1))/\Y=(m.set P0 ((aE.C r.2))))
def pT (f:aE->aD->Int->Option (aD × aE)):Prop:=∀a0 a1 a2 r,f a0 a1 a2=some r->∀(q:Pa) (m:M) (vs:List V) (P0:Pa),vs.map V.weak1=[.ptr P0 0,.agg ((aD.C a1)),.li a2]/\m.blk P0=some ((aE.C a0))/\m.gl 4=.eptr [(cA cS cE)] 0 0/\m.gl 6=.eptr [(cA (cA cS) cT)] 0 0->SC prog 180 vs q m (λv Y=>v=.agg ((aD.C r.1))/\Y=(m.set P0 ((aE.C r.2))))
def qX (f:aE->aD->Int->Option (aD × aE)):Prop:=∀a0 a1 a2 r,f a0 a1 a2=some r->∀(q:Pa) (m:M) (vs:List V) (P0:Pa),vs.map V.weak1=[.ptr P0 0,.agg ((aD.C a1)),.li a2]/\m.blk P0=some ((aE.C a0))/\m.gl 4=.eptr [(cA cS cE)] 0 0/\m.gl 6=.eptr [(cA (cA cS) cT)] 0 0->SC prog 181 vs q m (λv Y=>v=.agg ((aD.C r.1))/\Y=(m.set P0 ((aE.C r.2))))
theorem BN {eR} (Aa:nQ eR) (n:Nat):hM (nU eR n):=haveI:nK 158 (nQ eR):=⟨Aa⟩;λa0 a1 r h q m vs P0 ⟨hv,hmP0,_,_⟩=>SC.wva hv (SC.ac hmP0 λ_ _ _=>cY func123 call123 ntmps123 results123 rfl (wk (.l [.b 0 aE λy=>(aE.C y),.b 5 aD λy=>[.li y.bT,.li y.fC,.ls y.cW,.lw y.pO,.list .self (y.aP.map aD.C)]] [0,1,4,5] [4] [] none (.j 2 4 10 [.v 22 Bool λy=>.lb y] [0,1,4,5] [0,4,5] [] none .z .z) .z) q m (nU.eq_1 _ _ _ _) h))
theorem zR {lR} (Bw:pT lR) {mW} (De:qX mW) (n:Nat):nQ (kX lR mW n):=haveI:nK 180 (pT lR):=⟨Bw⟩;haveI:nK 181 (qX mW):=⟨De⟩;λa0 a1 r h q m vs P0 ⟨hv,hmP0,_,_⟩=>SC.wva hv (SC.ac hmP0 λ_ _ _=>cY func158 call158 ntmps158 results158 rfl (wk (.j 11 0 26 [.b 0 aE λy=>(aE.C y),.b 5 aD λy=>[.li y.bT,.li y.fC,.ls y.cW,.lw y.pO,.list .self (y.aP.map aD.C)]] [0,4,5] [4] [] none .z .z) q m (kX.eq_1 _ _ _ _ _) h))
theorem Bi {dI} (rG:hM dI) (n:Nat):pT (mZ dI n):=haveI:nK 123 (hM dI):=⟨rG⟩;λa0 a1 a2 r h q m vs P0 ⟨hv,hmP0,_,_⟩=>SC.wva hv (SC.ac hmP0 λ_ _ _=>cY func180 call180 ntmps180 results180 rfl (wk .z q m (mZ.eq_1 _ _ _ _ _) h))
theorem CH {dI} (rG:hM dI) (n:Nat):qX (oQ dI n):=haveI:nK 123 (hM dI):=⟨rG⟩;λa0 a1 a2 r h q m vs P0 ⟨hv,hmP0,_,_⟩=>SC.wva hv (SC.ac hmP0 λ_ _ _=>cY func181 call181 ntmps181 results181 rfl (wk .z q m (oQ.eq_1 _ _ _ _ _) h))
theorem tO:∀n,hM (eC n)/\nQ (CD n)/\pT (EK n)/\qX (FU n)
 | 0=>⟨λ_ _ _ h=>dS h,λ_ _ _ h=>dS h,λ_ _ _ _ h=>dS h,λ_ _ _ _ h=>dS h⟩
 | n+1=>
   have ih:=tO n
   ⟨BN ih.2.1 n,zR ih.2.2.1 ih.2.2.2 n,Bi ih.1 n,CH ih.1 n⟩
theorem Dr (n:Nat):hM (eC n):=(tO n).1
instance:nK 123 (∀n,hM (eC n)):=⟨Dr⟩
def uK (f:aE->Option (aD × aE)):Prop:=∀a0 r,f a0=some r->∀(q:Pa) (m:M) (vs:List V) (P0:Pa),vs.map V.weak1=[.ptr P0 0]/\m.blk P0=some ((aE.C a0))/\m.gl 4=.eptr [(cA cS cE)] 0 0/\m.gl 6=.eptr [(cA (cA cS) cT)] 0 0->SC prog 87 vs q m (λv Y=>v=.agg ((aD.C r.1))/\Y=(m.set P0 ((aE.C r.2))))
theorem Bh (n:Nat):uK (kO n):=λa0 r h q m vs P0 ⟨hv,hmP0,_,_⟩=>SC.wva hv (SC.ac hmP0 λ_ _ _=>haveI:nK 121 (∀n,tB (fI n)):=⟨zU⟩;cY func87 call87 ntmps87 results87 rfl (wk .z q m (kO.eq_1 _ _) h))
instance:nK 87 (∀n,uK (kO n)):=⟨Bh⟩
def KA (f:cJ->Option (aD × Int × Int)):Prop:=∀a0 r,f a0=some r->∀(q:Pa) (m:M) (vs:List V),vs.map V.weak1=[.list .none (pM a0)]/\m.gl 3=.eptr [(cA cS eZ)] 0 0/\m.gl 4=.eptr [(cA cS cE)] 0 0/\m.gl 6=.eptr [(cA (cA cS) cT)] 0 0->SC prog 56 vs q m (λv Y=>v=.tup [.agg ((aD.C r.1)),.li r.2.1,.li r.2.2]/\Y=m)
theorem Jw (n:Nat):KA (zQ n):=λa0 r h q m vs ⟨hv,_,_,_⟩=>SC.wva hv (cY func56 call56 ntmps56 results56 rfl (wk (.c .z (.l [.b 8 aE λy=>(aE.C y),.b 9 aD λy=>[.li y.bT,.li y.fC,.ls y.cW,.lw y.pO,.list .self (y.aP.map aD.C)]] [2,8,9] [2] [] none (.j 2 6 11 [.v 36 Bool λy=>.lb y] [2,8,9] [2,8,9] [] none .z .z) .z)) q m (zQ.eq_1 _ _) h))
def xG (f:aG->aH->Int->Int->Option aH):Prop:=∀a0 a1 a2 a3 r,f a0 a1 a2 a3=some r->∀(q:Pa) (m:M) (vs:List V) (P0:Pa) (F0 fp0 S0 C0:V),vs.map V.weak1=[.ptr P0 0,.li a2,.li a3]/\m.blk P0=some (qB F0 fp0 S0 C0 a0 a1)/\cV F0 fp0 S0 C0 m.hp a0->SC prog 95 vs q m (λv Y=>v=.tup []/\Y=(m.set P0 (qB F0 fp0 S0 C0 a0 r)))
theorem DA:xG (pK):=λa0 a1 a2 a3 r h q m vs P0 F0 fp0 S0 C0 ⟨hv,hmP0,t0⟩=>SC.wva hv (SC.ac hmP0 λ_ _ _=>cY func95 call95 ntmps95 results95 rfl (wk .z q m (pK.eq_1 _ _ _ _) h))
instance:nK 95 (xG pK):=⟨DA⟩
def xC (f:aG->aH->Bool->Int->Int->Option aH):Prop:=∀a0 a1 a2 a3 a4 r,f a0 a1 a2 a3 a4=some r->∀(q:Pa) (m:M) (vs:List V) (P0:Pa) (F0 fp0 S0 C0:V),vs.map V.weak1=[.ptr P0 0,.lb a2,.li a3,.li a4]/\m.blk P0=some (qB F0 fp0 S0 C0 a0 a1)/\cV F0 fp0 S0 C0 m.hp a0->SC prog 60 vs q m (λv Y=>v=.tup []/\Y=(m.set P0 (qB F0 fp0 S0 C0 a0 r)))
theorem bM:xC (bB):=λa0 a1 a2 a3 a4 r h q m vs P0 F0 fp0 S0 C0 ⟨hv,hmP0,t0⟩=>SC.wva hv (SC.ac hmP0 λ_ _ _=>cY func60 call60 ntmps60 results60 rfl (wk .z q m (bB.eq_1 _ _ _ _ _) h))
instance:nK 60 (xC bB):=⟨bM⟩
