import Derived.Test.YtljbbjpbefjpiaaGreatDoorPH4
import Derived.Test.YtljbbjpbefjpiaaGreatDoorPAw
namespace Go.Proofs.YtljbbjpbefjpiaaGreatDoor.Abs
open Go.RowKit Tryz
open IntKind (i64 u32 u64 u8)
set_option linter.all false
set_option maxRecDepth 10000
set_option maxHeartbeats 2000000
open Tryz
instance:SI bI.C 2:=⟨λx=>by rw [bI.C_eq];rfl⟩
instance:SH eY 26:=⟨by decide⟩
instance:SH cV 5:=⟨by decide⟩
def Gn (f:Int->Option Bool):Prop:=∀a0 r,f a0=some r->FY prog 43 [.lit (.int .u8 a0)] (.lb r)
theorem JI:Gn (yR):=λa0 r h q m vs hv=>SC.wva hv (gO func43 call43 ntmps43 results43 rfl (wk (.j 2 1 16 [.v 2 Bool λy=>.lb y] [] [] [] none .z .z) q m (yR.eq_1 _) h))
instance:qW 43 (Gn yR):=⟨JI⟩
def qU (f:cB->cB->Option Bool):Prop:=∀a0 a1 r,f a0 a1=some r->FY prog 64 [.ls a0,.ls a1] (.lb r)
theorem vA:qU (gM):=λa0 a1 r h q m vs hv=>SC.wva hv (gO func64 call64 ntmps64 results64 rfl (wk (.j 2 1 15 [.v 4 Bool λy=>.lb y] [] [] [] none .z .z) q m (gM.eq_1 _ _) h))
instance:qW 64 (qU gM):=⟨vA⟩
def xZ (f:cB->cB->Option Bool):Prop:=∀a0 a1 r,f a0 a1=some r->FY prog 44 [.ls a0,.ls a1] (.lb r)
theorem Dc:xZ (nX):=λa0 a1 r h q m vs hv=>SC.wva hv (gO func44 call44 ntmps44 results44 rfl (wk .z q m (nX.eq_1 _ _) h))
instance:qW 44 (xZ nX):=⟨Dc⟩
def qD (f:cB->Int->Option Int):Prop:=∀a0 a1 r,f a0 a1=some r->FY prog 85 [.ls a0,.lit (.int .u8 a1)] (.li r)
theorem tZ:qD oD:=by
 intro a0 a1 r h q m vs hv;refine SC.weak ?_;rw [hv];cases h;intro c xs w h1 h2 h3;obtain ⟨x,xs,rfl,k1,k2⟩:=h2.uncons;obtain ⟨y,rfl,k3⟩:=k2.inv_one;obtain rfl:=k1.inv_lit;obtain rfl:=k3.inv_lit;refine .inr ⟨.int .i64 (Lib.indexByte a0 a1.toNat.toUInt8),w,?_,_,c,_,m,rfl,⟨rfl,rfl⟩,h1,.refl q c m w,.lit .nil⟩;rw [run_callFunc_extern (fn:=f85) (e:=Extern.BytealgIndexByte.indexByte) func85 (by kernel_rfl) (by kernel_rfl) (by kernel_rfl) (by rfl)];have:=Lib.run_indexByteString (P:=prog) (bs a0) a1 w;rw [this];rfl
instance:qW 85 (qD oD):=⟨tZ⟩
def qT (f:cB->Int->Option Int):Prop:=∀a0 a1 r,f a0 a1=some r->FY prog 65 [.ls a0,.lit (.int .u8 a1)] (.li r)
theorem uZ:qT (mP):=λa0 a1 r h q m vs hv=>SC.wva hv (gO func65 call65 ntmps65 results65 rfl (wk .z q m (mP.eq_1 _ _) h))
instance:qW 65 (qT mP):=⟨uZ⟩
def xY (f:cB->Int->Option Int):Prop:=∀a0 a1 r,f a0 a1=some r->FY prog 45 [.ls a0,.lit (.int .u8 a1)] (.li r)
theorem Db:xY (nW):=λa0 a1 r h q m vs hv=>SC.wva hv (gO func45 call45 ntmps45 results45 rfl (wk .z q m (nW.eq_1 _ _) h))
instance:qW 45 (xY nW):=⟨Db⟩
def HE (f:cB->Int->Option Int):Prop:=∀a0 a1 r,f a0 a1=some r->FY prog 31 [.ls a0,.li a1] (.li r)
theorem KU (n:Nat):HE (tY n):=λa0 a1 r h q m vs hv=>SC.wva hv (gO func31 call31 ntmps31 results31 rfl (wk (.l [.v 1 Int λy=>.li y] [0] [] [] none .z .z) q m (tY.eq_1 _ _ _) h))
instance:qW 31 (∀n,HE (tY n)):=⟨KU⟩
def Fb (f:Int->Option Bool):Prop:=∀a0 r,f a0=some r->FY prog 47 [.lit (.int .u8 a0)] (.lb r)
theorem Iu:Fb (uK):=λa0 r h q m vs hv=>SC.wva hv (gO func47 call47 ntmps47 results47 rfl (wk (.j 2 1 12 [.v 2 Bool λy=>.lb y] [] [] [] none .z .z) q m (uK.eq_1 _) h))
instance:qW 47 (Fb uK):=⟨Iu⟩
def Gp (f:Int->Option Bool):Prop:=∀a0 r,f a0=some r->FY prog 48 [.lit (.int .u8 a0)] (.lb r)
theorem JJ:Gp (wU):=λa0 r h q m vs hv=>SC.wva hv (gO func48 call48 ntmps48 results48 rfl (wk (.j 2 1 8 [.v 2 Bool λy=>.lb y] [] [] [] none .z .z) q m (wU.eq_1 _) h))
instance:qW 48 (Gp wU):=⟨JJ⟩
def HD (f:cB->Option cB):Prop:=∀a0 r,f a0=some r->FY prog 46 [.ls a0] (.ls r)
theorem KT (n:Nat):HD (zR n):=λa0 r h q m vs hv=>SC.wva hv (gO func46 call46 ntmps46 results46 rfl (wk (.l [.v 6 Int λy=>.li y] [0,5] [] [] none (.c (.j 2 4 15 [.v 20 Bool λy=>.lb y] [0,3,5,6] [] [] none .z .z) .z) .z) q m (zR.eq_1 _ _) h))
instance:qW 46 (∀n,HD (zR n)):=⟨KT⟩
def qV (f:cB->cB->Option (cB × Bool)):Prop:=∀a0 a1 r,f a0 a1=some r->FY prog 86 [.ls a0,.ls a1] (.tup [.ls r.1,.lb r.2])
theorem vB:qV (kK):=λa0 a1 r h q m vs hv=>SC.wva hv (gO func86 call86 ntmps86 results86 rfl (wk .z q m (kK.eq_1 _ _) h))
instance:qW 86 (qV kK):=⟨vB⟩
def yA (f:cB->cB->Option (cB × Bool)):Prop:=∀a0 a1 r,f a0 a1=some r->FY prog 66 [.ls a0,.ls a1] (.tup [.ls r.1,.lb r.2])
theorem Dd:yA (pD):=λa0 a1 r h q m vs hv=>SC.wva hv (gO func66 call66 ntmps66 results66 rfl (wk .z q m (pD.eq_1 _ _) h))
instance:qW 66 (yA pD):=⟨Dd⟩
def Gm (f:cB->Option (Int × Bool)):Prop:=∀a0 r,f a0=some r->FY prog 49 [.ls a0] (.tup [.lw r.1,.lb r.2])
theorem JH (n:Nat):Gm (uW n):=λa0 r h q m vs hv=>SC.wva hv (gO func49 call49 ntmps49 results49 rfl (wk (.c (.l [.v 7 Int λy=>.li y,.v 19 Int λy=>.li y] [0,4,18] [] [] none (.c (.j 2 11 22 [.v 38 Bool λy=>.lb y] [0,4,7,18,19] [] [] none .z .z) .z) .z) (.l [.v 7 Int λy=>.li y,.v 19 Int λy=>.li y] [0,4,18] [] [] none (.c (.j 2 11 22 [.v 38 Bool λy=>.lb y] [0,4,7,18,19] [] [] none .z .z) .z) .z)) q m (uW.eq_1 _ _) h))
instance:qW 49 (∀n,Gm (uW n)):=⟨JH⟩
def HG (f:cB->Option cB):Prop:=∀a0 r,f a0=some r->∀(q:Pa) (m:M) (vs:List V),vs.map V.weak1=[.ls a0]/\m.gl 1=.eptr [(cA cS eY)] 0 0->SC prog 50 vs q m (λv Y=>v=.ls r/\Y=m)
theorem KV (n:Nat):HG (BD n):=λa0 r h q m vs ⟨hv,_⟩=>SC.wva hv (gO func50 call50 ntmps50 results50 rfl (wk (.l [.v 6 Int λy=>.li y] [0,5] [] [] none .z .z) q m (BD.eq_1 _ _) h))
instance:qW 50 (∀n,HG (BD n)):=⟨KV⟩
def HH (f:cB->Int->Option (dT × Int)):Prop:=∀a0 a1 r,f a0 a1=some r->∀(q:Pa) (m:M) (vs:List V),vs.map V.weak1=[.ls a0,.li a1]/\m.gl 1=.eptr [(cA cS eY)] 0 0->SC prog 32 vs q m (λv Y=>v=.tup [.agg ((dT.C r.1)),.li r.2]/\Y=m)
theorem KW (n:Nat):HH (oZ n):=λa0 a1 r h q m vs ⟨hv,_⟩=>SC.wva hv (gO func32 call32 ntmps32 results32 rfl (wk .z q m (oZ.eq_1 _ _ _) h))
instance:qW 32 (∀n,HH (oZ n)):=⟨KW⟩
def EZ (f:cB->Option ((List dT) × Int × Int)):Prop:=∀a0 r,f a0=some r->∀(q:Pa) (m:M) (vs:List V),vs.map V.weak1=[.list .none (mT a0)]/\m.gl 1=.eptr [(cA cS eY)] 0 0->SC prog 18 vs q m (λv Y=>v=.tup [.list .none (r.1.map dT.C),.li r.2.1,.li r.2.2]/\Y=m)
theorem It (n:Nat):EZ (mV n):=λa0 r h q m vs ⟨hv,_⟩=>SC.wva hv (gO func18 call18 ntmps18 results18 rfl (wk (.c .z (.s 6 (.l [.o 6 (List dT) λy=>(y.map dT.C),.v 7 Int λy=>.li y] [5] [] [] none .z .z))) q m (mV.eq_1 _ _) h))
instance:qW 18 (∀n,EZ (mV n)):=⟨It⟩
def vF (f:aA->Option dT):Prop:=∀a0 r,f a0=some r->∀(q:Pa) (m:M) (vs:List V) (P0:Pa),vs.map V.weak1=[.ptr P0 0]/\m.blk P0=some ((aA.C a0))->SC prog 20 vs q m (λv Y=>v=.agg ((dT.C r))/\Y=m)
theorem Bm:vF (cG):=λa0 r h q m vs P0 ⟨hv,hmP0⟩=>SC.wva hv (SC.ac hmP0 λ_ _ _=>gO func20 call20 ntmps20 results20 rfl (wk .z q m (cG.eq_1 _) h))
instance:qW 20 (vF cG):=⟨Bm⟩
def wG (f:aA->Int->Option aA):Prop:=∀a0 a1 r,f a0 a1=some r->∀(q:Pa) (m:M) (vs:List V) (P0:Pa),vs.map V.weak1=[.ptr P0 0,.li a1]/\m.blk P0=some ((aA.C a0))->SC prog 33 vs q m (λv Y=>v=.tup []/\Y=(m.set P0 ((aA.C r))))
theorem Cg:wG (fF):=λa0 a1 r h q m vs P0 ⟨hv,hmP0⟩=>SC.wva hv (SC.ac hmP0 λ_ _ _=>gO func33 call33 ntmps33 results33 rfl (wk .z q m (fF.eq_1 _ _) h))
instance:qW 33 (wG fF):=⟨Cg⟩
def wD (f:aA->Int->Option (aB × aA)):Prop:=∀a0 a1 r,f a0 a1=some r->∀(q:Pa) (m:M) (vs:List V) (P0:Pa),vs.map V.weak1=[.ptr P0 0,.li a1]/\m.blk P0=some ((aA.C a0))->SC prog 19 vs q m (λv Y=>∃(id:Pa) (j:Nat),q <:+ id/\v=.agg ([.li r.1.bT,.li r.1.eO,.ls r.1.bQ,.lw r.1.kL,.list (.st (.anon id j)) (r.1.aL.map aB.C)])/\Y=(m.set P0 ((aA.C r.2))).tokset id j true)
theorem Ce:wD (dR):=λa0 a1 r h q m vs P0 ⟨hv,hmP0⟩=>SC.wva hv (SC.ac hmP0 λ_ _ _=>SC_vo func19 call19 ntmps19 results19 4 rfl λ_=>wk .z q m (dR.eq_1 _ _) h)
instance:qW 19 (wD dR):=⟨Ce⟩
def rH (f:(List cB)->cB->Option Int):Prop:=∀a0 a1 r,f a0 a1=some r->FY prog 87 [.list .none (a0.map cS),.ls a1] (.li r)
theorem vY (n:Nat):rH (jK n):=λa0 a1 r h q m vs hv=>SC.wva hv (gO func87 call87 ntmps87 results87 rfl (wk (.l [.v 8 Int λy=>.li y] [0,1,7] [] [] none .z .z) q m (jK.eq_1 _ _ _) h))
instance:qW 87 (∀n,rH (jK n)):=⟨vY⟩
def qH (f:(List cB)->cB->Option Bool):Prop:=∀a0 a1 r,f a0 a1=some r->FY prog 67 [.list .none (a0.map cS),.ls a1] (.lb r)
theorem uJ (n:Nat):qH (iM n):=λa0 a1 r h q m vs hv=>SC.wva hv (gO func67 call67 ntmps67 results67 rfl (wk .z q m (iM.eq_1 _ _ _) h))
instance:qW 67 (∀n,qH (iM n)):=⟨uJ⟩
def ET (f:cB->Option Bool):Prop:=∀a0 r,f a0=some r->∀(q:Pa) (m:M) (vs:List V),vs.map V.weak1=[.ls a0]/\m.gl 2=.eptr [(cA cS cE)] 0 0->SC prog 52 vs q m (λv Y=>v=.lb r/\Y=m)
theorem Ir (n:Nat):ET (rX n):=λa0 r h q m vs ⟨hv,_⟩=>SC.wva hv (gO func52 call52 ntmps52 results52 rfl (wk .z q m (rX.eq_1 _ _) h))
instance:qW 52 (∀n,ET (rX n)):=⟨Ir⟩
def yC (f:aA->cB->Option Bool):Prop:=∀a0 a1 r,f a0 a1=some r->∀(q:Pa) (m:M) (vs:List V) (P0:Pa),vs.map V.weak1=[.ptr P0 0,.ls a1]/\m.blk P0=some ((aA.C a0))/\m.gl 2=.eptr [(cA cS cE)] 0 0->SC prog 51 vs q m (λv Y=>v=.lb r/\Y=m)
theorem xE (n:Nat):yC (fX n):=λa0 a1 r h q m vs P0 ⟨hv,hmP0,_⟩=>SC.wva hv (SC.ac hmP0 λ_ _ _=>gO func51 call51 ntmps51 results51 rfl (wk (.j 2 2 31 [.v 4 Bool λy=>.lb y] [0] [0] [] none .z .z) q m (fX.eq_1 _ _ _) h))
instance:qW 51 (∀n,yC (fX n)):=⟨xE⟩
def wA (f:aA->cB->Option (Bool × aA)):Prop:=∀a0 a1 r,f a0 a1=some r->∀(q:Pa) (m:M) (vs:List V) (P0:Pa),vs.map V.weak1=[.ptr P0 0,.ls a1]/\m.blk P0=some ((aA.C a0))/\m.gl 2=.eptr [(cA cS cE)] 0 0->SC prog 34 vs q m (λv Y=>v=.lb r.1/\Y=(m.set P0 ((aA.C r.2))))
theorem oA (n:Nat):wA (bE n):=λa0 a1 r h q m vs P0 ⟨hv,hmP0,_⟩=>SC.wva hv (SC.ac hmP0 λ_ _ _=>gO func34 call34 ntmps34 results34 rfl (wk .z q m (bE.eq_1 _ _ _) h))
instance:qW 34 (∀n,wA (bE n)):=⟨oA⟩
def wE (f:aA->cB->Option aA):Prop:=∀a0 a1 r,f a0 a1=some r->∀(q:Pa) (m:M) (vs:List V) (P0:Pa),vs.map V.weak1=[.ptr P0 0,.ls a1]/\m.blk P0=some ((aA.C a0))/\m.gl 2=.eptr [(cA cS cE)] 0 0->SC prog 35 vs q m (λv Y=>v=.tup []/\Y=(m.set P0 ((aA.C r))))
theorem oC (n:Nat):wE (aX n):=λa0 a1 r h q m vs P0 ⟨hv,hmP0,_⟩=>SC.wva hv (SC.ac hmP0 λ_ _ _=>gO func35 call35 ntmps35 results35 rfl (wk .z q m (aX.eq_1 _ _ _) h))
instance:qW 35 (∀n,wE (aX n)):=⟨oC⟩
def wF (f:aA->Option (cB × aA)):Prop:=∀a0 r,f a0=some r->∀(q:Pa) (m:M) (vs:List V) (P0:Pa),vs.map V.weak1=[.ptr P0 0]/\m.blk P0=some ((aA.C a0))/\m.gl 2=.eptr [(cA cS cE)] 0 0->SC prog 36 vs q m (λv Y=>v=.ls r.1/\Y=(m.set P0 ((aA.C r.2))))
theorem Cf (n:Nat):wF (dD n):=λa0 r h q m vs P0 ⟨hv,hmP0,_⟩=>SC.wva hv (SC.ac hmP0 λ_ _ _=>gO func36 call36 ntmps36 results36 rfl (wk (.j 2 2 20 [.v 20 Bool λy=>.lb y] [0,3] [0,3] [] none .z .z) q m (dD.eq_1 _ _) h))
instance:qW 36 (∀n,wF (dD n)):=⟨Cf⟩
def uQ (f:aA->Option (Int × aA)):Prop:=∀a0 r,f a0=some r->∀(q:Pa) (m:M) (vs:List V) (P0:Pa),vs.map V.weak1=[.ptr P0 0]/\m.blk P0=some ((aA.C a0))->SC prog 68 vs q m (λv Y=>v=.lw r.1/\Y=(m.set P0 ((aA.C r.2))))
theorem AL:uQ (gG):=λa0 r h q m vs P0 ⟨hv,hmP0⟩=>SC.wva hv (SC.ac hmP0 λ_ _ _=>gO func68 call68 ntmps68 results68 rfl (wk (.j 2 2 15 [.v 15 Bool λy=>.lb y] [0,3] [0,3] [] none .z .z) q m (gG.eq_1 _) h))
instance:qW 68 (uQ gG):=⟨AL⟩
def wB (f:aA->Option (Int × aA)):Prop:=∀a0 r,f a0=some r->∀(q:Pa) (m:M) (vs:List V) (P0:Pa),vs.map V.weak1=[.ptr P0 0]/\m.blk P0=some ((aA.C a0))/\m.gl 2=.eptr [(cA cS cE)] 0 0->SC prog 53 vs q m (λv Y=>v=.lw r.1/\Y=(m.set P0 ((aA.C r.2))))
theorem Cc (n:Nat):wB (iH n):=λa0 r h q m vs P0 ⟨hv,hmP0,_⟩=>SC.wva hv (SC.ac hmP0 λ_ _ _=>gO func53 call53 ntmps53 results53 rfl (wk .z q m (iH.eq_1 _ _) h))
instance:qW 53 (∀n,wB (iH n)):=⟨Cc⟩
def vH (f:aA->Option (aB × aA)):Prop:=∀a0 r,f a0=some r->∀(q:Pa) (m:M) (vs:List V) (P0:Pa),vs.map V.weak1=[.ptr P0 0]/\m.blk P0=some ((aA.C a0))/\m.gl 2=.eptr [(cA cS cE)] 0 0->SC prog 38 vs q m (λv Y=>v=.agg ((aB.C r.1))/\Y=(m.set P0 ((aA.C r.2))))
instance:SH gC 3:=⟨by decide⟩
@[go_sem low] theorem Il {n:Nat}:List.drop n [V.lit (.string (bs ([112,117,98]:cB))),V.lit (.string (bs ([117,51,50]:cB))),V.lit (.string (bs ([117,54,52]:cB)))]=Mf cS gC[n]? ++ cA cS (gC.drop (n+1)):=Lj (f:=cS) (l:=gC)
theorem Bo (n:Nat):vH (eJ n):=λa0 r h q m vs P0 ⟨hv,hmP0,_⟩=>SC.wva hv (SC.ac hmP0 λ_ _ _=>gO func38 call38 ntmps38 results38 rfl (wk (.l [.v 15 Int λy=>.li y,.b 0 aA λy=>(aA.C y),.b 2 aB λy=>[.li y.bT,.li y.eO,.ls y.bQ,.lw y.kL,.list .self (y.aL.map aB.C)],.b 3 aB λy=>[.li y.bT,.li y.eO,.ls y.bQ,.lw y.kL,.list .self (y.aL.map aB.C)]] [0,2,3,14] [] [] none .z .z) q m (eJ.eq_1 _ _) h))
instance:qW 38 (∀n,vH (eJ n)):=⟨Bo⟩
def sF (f:aA->Option ((List aB) × aA)):Prop:=∀a0 r,f a0=some r->∀(q:Pa) (m:M) (vs:List V) (P0:Pa),vs.map V.weak1=[.ptr P0 0,.fn (.func 38) [.ptr P0 0] []]/\m.blk P0=some ((aA.C a0))/\m.gl 2=.eptr [(cA cS cE)] 0 0->SC prog 37 vs q m (λv Y=>∃(id:Pa) (j:Nat),q <:+ id/\v=.list (.st (.anon id j)) (r.1.map aB.C)/\Y=(m.set P0 ((aA.C r.2))).tokset id j true)
theorem xD (n:Nat):sF (cH n):=λa0 r h q m vs P0 ⟨hv,hmP0,_⟩=>SC.wva hv (SC.ac hmP0 λ_ _ _=>SC_vo func37 call37 ntmps37 results37 0 rfl λ_=>wk (.c .z (.j 1 0 8 [.o 5 (List aB) λy=>(y.map aB.C),.b 0 aA λy=>(aA.C y)] [0,1] [] [] none (.s 5 (.l [.o 5 (List aB) λy=>(y.map aB.C),.b 0 aA λy=>(aA.C y)] [0,1] [] [] none .z .z)) .z)) q m (cH.eq_1 _ _) h)
def wH (f:aA->Int->Option aA):Prop:=∀a0 a1 r,f a0 a1=some r->∀(q:Pa) (m:M) (vs:List V) (P0:Pa),vs.map V.weak1=[.ptr P0 0,.li a1]/\m.blk P0=some ((aA.C a0))->SC prog 54 vs q m (λv Y=>v=.tup []/\Y=(m.set P0 ((aA.C r))))
theorem Ci:wH (iJ):=λa0 a1 r h q m vs P0 ⟨hv,hmP0⟩=>SC.wva hv (SC.ac hmP0 λ_ _ _=>gO func54 call54 ntmps54 results54 rfl (wk .z q m (iJ.eq_1 _ _) h))
instance:qW 54 (wH iJ):=⟨Ci⟩
def wC (f:aA->Int->Option cB):Prop:=∀a0 a1 r,f a0 a1=some r->∀(q:Pa) (m:M) (vs:List V) (P0:Pa),vs.map V.weak1=[.ptr P0 0,.li a1]/\m.blk P0=some ((aA.C a0))/\m.gl 2=.eptr [(cA cS cE)] 0 0/\m.gl 4=.eptr [(cA (cA cS) cQ)] 0 0->SC prog 96 vs q m (λv Y=>v=.ls r/\Y=m)
theorem Cd (n:Nat):wC (iI n):=by
 rintro a0 a1 r h q m vs P0 ⟨hv,hmP0,hg2,hg4⟩;refine SC.wv hv ?_;refine SC.apart hmP0 λhpP0=>?_
 try simp only [go_sem,seval] at hmP0
 refine vC func96 call96 ntmps96 results96 ?_;unfold iI at h;refine aN (aR λ_ z=>?_);have K1:=qJ2 hg2 hg4;simp only [go_sem,seval,bZ hpP0,hmP0,K1];apply z;simp only [aE,aC];refine aN (aN ?_);obtain ⟨x1,h5,h⟩:=aH h;obtain ⟨f2,f3,f4⟩:=cO h5;have f6:a1<7:=f3;obtain ⟨w7,d8⟩:=NG (f:=(cA cS)) (s:=3) (Sh (f:=(cA cS)) (s:=3) _ (by kernel_rfl)) f4;have d9:=(Sh (f:=(cA cS)) (s:=3) _ (by kernel_rfl)) _ (Fw f4);have d10:=List.take_left' (l₂:=w7) d9;have d11:(3<=(cA cS x1).length+w7.length)=True:=eq_true (by omega);refine aR λ_ z=>?_;have K2:=qJ8 K1 f2 f3 f4 f6 d10 d11 d8;simp only [go_sem,seval,bZ hpP0,hmP0,K2];apply z;simp only [aE,aC];refine gN ?_;obtain ⟨y14,j14,h⟩:=aH h;refine yE (λc X Y=>∃v13,gP n x1 a0 c v13=some y14/\X 0=.ptr P0 0/\X 9=.agg ((cA cS x1))/\X 10=.li v13/\Y.blk P0=some ((aA.C a0))/\Y.gl=m.gl/\m.back q Y=m) n ⟨0,j14,?_⟩ ?_
 ·simp only [go_sem,seval,bJ,bG,aV,bC,bH hpP0,bZ hpP0,hmP0,K2]
 rintro i12 c15 E16 m17 ⟨v13,j14,e18⟩ _
 rcases c15 with _ | c15
 ·cases j14
 rw [gP] at j14;refine aN (aR λ_ z=>?_);simp only [go_sem,seval,bZ hpP0,e18,K2];apply z;simp only [aE,aC];refine aN (lL j14 (λc19 j14=>?_) (λc19 j14=>?_))
 ·refine fO ?_
  try simp only [aE,aC]
  refine aN (gN (aN ?_));obtain ⟨x20,h24,j14⟩:=aH j14;obtain ⟨f21,f22,f23⟩:=cO h24;have f25:=(uD.1 f23).1;have f26:v13<3:=by have:=cA_one d9;omega
  obtain ⟨w27,d28⟩:=NG (f:=cS) (s:=1) (λ_ _=>rfl) f23;simp only [go_sem,seval] at d28;refine aR λ_ z=>?_;have K3:=qJ8 K2 c19 f21 f22 f23 f26 d28 e18;simp only [go_sem,seval,bZ hpP0,K3];apply z;simp only [aE,aC];refine aN ?_;obtain ⟨y29,j29,j14⟩:=aH j14;refine Ae 10 (λX Y=>X 0=.ptr P0 0/\X 6=.ls x20/\X 9=.agg ((cA cS x1))/\X 10=.li v13/\X 19=.lb y29/\Y.blk P0=some ((aA.C a0))/\Y.gl=m.gl/\m.back q Y=m) ?_ ?_
  ·rcases xS j29 with ⟨c30,j29⟩ | ⟨c30,j29⟩
   ·obtain ⟨x31,h32,j29⟩:=aH j29;refine aR λ_ z=>?_;simp only [go_sem,seval,bZ hpP0,c30,K3];refine SC.by_ (xE n a0 x20 _ h32 _ _ _ P0 (by simp only [go_sem,seval,bZ hpP0,c30,K3])) ?_;simp only [go_sem,seval,bZ hpP0,c30,K3];apply z;simp only [aE,aC];cases j29;refine ⟨by decide,?_⟩;simp only [go_sem,seval,bJ,bG,aV,bC,bH hpP0,bZ hpP0,c30,K3]
   ·refine aR λ_ z=>?_;simp only [go_sem,seval,bZ hpP0,c30,K3];apply z;simp only [aE,aC];cases j29;refine ⟨by decide,?_⟩;simp only [go_sem,seval,bJ,bG,aV,bC,bH hpP0,bZ hpP0,c30,K3]
  ·intro E33 m34 e35 _;simp only [aE,aC];refine lL j14 (λc36 j14=>?_) (λc36 j14=>?_)
   ·refine aN (aR λ_ z=>?_);have K4:=qJ9 K2 c19 f21 f22 f23 f26 d28 c36 e35;simp only [go_sem,seval,bZ hpP0,K4];apply z;simp only [aE,aC];refine gB ?_
    try simp only [aT,aP]
    cases j14;simp only [Qj,xeg] at h;cases h;refine ⟨by simp,?_⟩;simp only [go_sem,seval,bJ,bG,aV,bC,bH hpP0,bZ hpP0,K4]
   ·refine fO ?_
    try simp only [aE,aC]
    refine aR λ_ z=>?_;have K5:=qJ9 K2 c19 f21 f22 f23 f26 d28 c36 e35;simp only [go_sem,seval,bZ hpP0,K5];apply z;simp only [aE,aC];refine ⟨c15,MV _,(i64.wrap (v13+1)),j14,?_⟩;simp only [go_sem,seval,bJ,bG,aV,bC,bH hpP0,bZ hpP0,K5]
 ·refine oK ?_
  try simp only [seval,aW,aU,aE,aC]
  cases j14;simp only [Qj,xeg] at h;refine aN (aR λ_ z=>?_);simp only [go_sem,seval,bZ hpP0,c19,e18,K2];apply z;simp only [aE,aC];refine gB ?_
  try simp only [aT,aP]
  cases h;refine ⟨by simp,?_⟩;simp only [go_sem,seval,bJ,bG,aV,bC,bH hpP0,bZ hpP0,c19,e18,K2]
instance:qW 96 (∀n,wC (iI n)):=⟨Cd⟩
def lX (f:aA->Int->Option ((List aB) × aA)):Prop:=∀a0 a1 r,f a0 a1=some r->∀(q:Pa) (m:M) (vs:List V) (P0:Pa) (P1:Pa) (P2:Pa),vs.map V.weak1=[.ptr P0 0,.fn (.func 103) [] [.ptr P1 0,.ptr P2 0]]/\m.blk P0=some ((aA.C a0))/\m.blk P1=some ([.ptr P0 0])/\m.blk P2=some ([.li a1])/\(P0=P1)=False/\(P0=P2)=False/\(P1=P0)=False/\(P1=P2)=False/\(P2=P0)=False/\(P2=P1)=False/\m.gl 2=.eptr [(cA cS cE)] 0 0/\m.gl 4=.eptr [(cA (cA cS) cQ)] 0 0->SC prog 37 vs q m (λv Y=>v=.list .none (r.1.map aB.C)/\Y=(m.set P0 ((aA.C r.2))))
def jY (f:aA->Int->Option (aB × aA)):Prop:=∀a0 a1 r,f a0 a1=some r->∀(q:Pa) (m:M) (vs:List V) (P0:Pa),vs.map V.weak1=[.ptr P0 0,.li a1]/\m.blk P0=some ((aA.C a0))/\m.gl 2=.eptr [(cA cS cE)] 0 0/\m.gl 4=.eptr [(cA (cA cS) cQ)] 0 0->SC prog 70 vs q m (λv Y=>v=.agg ((aB.C r.1))/\Y=(m.set P0 ((aA.C r.2))))
def mO (f:aA->Int->Int->Option (aB × aA)):Prop:=∀a0 a1 a2 r,f a0 a1 a2=some r->∀(q:Pa) (m:M) (vs:List V) (P0:Pa),vs.map V.weak1=[.ptr P0 0,.li a1,.li a2]/\m.blk P0=some ((aA.C a0))/\m.gl 2=.eptr [(cA cS cE)] 0 0/\m.gl 4=.eptr [(cA (cA cS) cQ)] 0 0->SC prog 88 vs q m (λv Y=>v=.agg ((aB.C r.1))/\Y=(m.set P0 ((aA.C r.2))))
def lO (f:aA->Int->Option (aB × aA)):Prop:=∀a0 a1 r,f a0 a1=some r->∀(q:Pa) (m:M) (vs:List V) (P0:Pa),vs.map V.weak1=[.ptr P0 0,.li a1]/\m.blk P0=some ((aA.C a0))/\m.gl 2=.eptr [(cA cS cE)] 0 0/\m.gl 4=.eptr [(cA (cA cS) cQ)] 0 0->SC prog 95 vs q m (λv Y=>v=.agg ((aB.C r.1))/\Y=(m.set P0 ((aA.C r.2))))
def qC (f:aA->Int->Option (aB × aA)):Prop:=∀a0 a1 r,f a0 a1=some r->∀(q:Pa) (m:M) (vs:List V) (P0:Pa) (P1:Pa) (P2:Pa),vs.map V.weak1=[.ptr P1 0,.ptr P2 0]/\m.blk P0=some ((aA.C a0))/\m.blk P1=some ([.ptr P0 0])/\m.blk P2=some ([.li a1])/\(P0=P1)=False/\(P0=P2)=False/\(P1=P0)=False/\(P1=P2)=False/\(P2=P0)=False/\(P2=P1)=False/\m.gl 2=.eptr [(cA cS cE)] 0 0/\m.gl 4=.eptr [(cA (cA cS) cQ)] 0 0->SC prog 103 vs q m (λv Y=>v=.agg ((aB.C r.1))/\Y=(m.set P0 ((aA.C r.2))))
theorem tU {gA} (xG:qC gA) (n:Nat):lX (cK gA n):=by
 rintro a0 a1 r h q m vs P0 P1 P2 ⟨hv,hmP0,hmP1,hmP2,hn0_1,hn0_2,hn1_0,hn1_2,hn2_0,hn2_1,hg2,hg4⟩;refine SC.wv hv ?_;refine SC.apart hmP0 λhpP0=>?_;refine SC.apart hmP1 λhpP1=>?_;refine SC.apart hmP2 λhpP2=>?_;have l0:=EP hmP0
 try simp only [go_sem,seval] at hmP0 l0
 skip
 try simp only [go_sem,seval] at hmP2
 refine vC func37 call37 ntmps37 results37 ?_;unfold cK at h;refine aN (aR λ_ z=>?_);have K1:=qJ2 hg2 hg4;simp only [go_sem,seval,bZ hpP0,bZ hpP1,bZ hpP2,hn0_1,hn0_2,hn1_0,hn1_2,hn2_0,hn2_1,hmP0,hmP1,hmP2,K1];apply z;simp only [aE,aC];refine aN (aR λ_ z=>?_);simp only [go_sem,seval,bZ hpP0,bZ hpP1,bZ hpP2,hn0_1,hn0_2,hn1_0,hn1_2,hn2_0,hn2_1,hmP0,hmP1,hmP2,K1];apply z;simp only [aE,aC];refine aN ?_;obtain ⟨x1,h2,h⟩:=aH h;refine aR λ_ z=>?_;simp only [go_sem,seval,bZ hpP0,bZ hpP1,bZ hpP2,hn0_1,hn0_2,hn1_0,hn1_2,hn2_0,hn2_1,hmP0,hmP1,hmP2,K1];refine SC.by_ (oC n a0 ([40]:cB) _ h2 _ _ _ P0 (by simp only [go_sem,seval,bZ hpP0,bZ hpP1,bZ hpP2,hn0_1,hn0_2,hn1_0,hn1_2,hn2_0,hn2_1,hmP0,hmP1,hmP2,K1])) ?_;simp only [go_sem,seval,bZ hpP0,bZ hpP1,bZ hpP2,hn0_1,hn0_2,hn1_0,hn1_2,hn2_0,hn2_1,hmP0,hmP1,hmP2,K1];apply z;simp only [aE,aC];refine aN (aN ?_);obtain ⟨x3,h4,h⟩:=aH h;refine aR λ_ z=>?_;simp only [go_sem,seval,bZ hpP0,bZ hpP1,bZ hpP2,hn0_1,hn0_2,hn1_0,hn1_2,hn2_0,hn2_1,hmP0,hmP1,hmP2,K1];refine SC.by_ (oA n x1 ([41]:cB) _ h4 _ _ _ P0 (by simp only [go_sem,seval,bZ hpP0,bZ hpP1,bZ hpP2,hn0_1,hn0_2,hn1_0,hn1_2,hn2_0,hn2_1,hmP0,hmP1,hmP2,K1])) ?_;simp only [go_sem,seval,bZ hpP0,bZ hpP1,bZ hpP2,hn0_1,hn0_2,hn1_0,hn1_2,hn2_0,hn2_1,hmP0,hmP1,hmP2,K1];apply z;simp only [aE,aC];refine lL h (λc5 h=>?_) (λc5 h=>?_)
 ·refine aN (aR λ_ z=>?_);simp only [go_sem,seval,bZ hpP0,bZ hpP1,bZ hpP2,hn0_1,hn0_2,hn1_0,hn1_2,hn2_0,hn2_1,c5,hmP0,hmP1,hmP2,K1];apply z;simp only [aE,aC];refine gB ?_
  try simp only [aT,aP]
  cases h;refine ⟨by simp,?_⟩;simp only [go_sem,seval,bJ,bG,aV,bC,bH hpP0,bH hpP1,bH hpP2,l0,bZ hpP0,bZ hpP1,bZ hpP2,hn0_1,hn0_2,hn1_0,hn1_2,hn2_0,hn2_1,c5,hmP0,hmP1,hmP2,K1]
 ·refine fO ?_
  try simp only [aE,aC]
  refine aN ?_;obtain ⟨y6,j6,h⟩:=aH h;refine Ae 8 (λX Y=>∃(oy6_5:Pa) (jy6_5:Nat),X 0=.ptr P0 0/\X 5=.list (.st (.anon oy6_5 jy6_5)) (y6.1.map aB.C)/\Y.tok oy6_5 jy6_5=true/\q <:+ oy6_5/\Y.blk P0=some ((aA.C y6.2))/\Y.blk P1=some ([.ptr P0 0])/\Y.blk P2=some ([.li a1])/\Y.gl=m.gl/\m.back q Y=(m.set P0 ((aA.C y6.2)))) ?_ ?_
  ·refine gN ?_;obtain ⟨y10,j10,j6⟩:=aH j6;refine Fm 5 ([].map aB.C) rfl (by simp only [go_sem,seval,bZ hpP0,bZ hpP1,bZ hpP2,hn0_1,hn0_2,hn1_0,hn1_2,hn2_0,hn2_1,c5,hmP0,hmP1,hmP2,K1]) ?_;refine yE (λc X Y=>∃v8 v9 o_v8 j_v8,cF gA n a1 c v8 v9=some y10/\X 0=.ptr P0 0/\X 1=.fn (.func 103) [] [.ptr P1 0,.ptr P2 0]/\X 5=.list (.st (.anon o_v8 j_v8)) (v8.map aB.C)/\Y.tok o_v8 j_v8=true/\q <:+ o_v8/\Y.blk P0=some ((aA.C v9))/\Y.blk P1=some ([.ptr P0 0])/\Y.blk P2=some ([.li a1])/\Y.gl=m.gl/\m.back q Y=(m.set P0 ((aA.C v9)))) n ⟨[],x3.2,(6::q),0,j10,?_⟩ ?_
   ·simp only [go_sem,seval,bJ,bG,aV,bC,bH hpP0,bH hpP1,bH hpP2,l0,bZ hpP0,bZ hpP1,bZ hpP2,hn0_1,hn0_2,hn1_0,hn1_2,hn2_0,hn2_1,c5,hmP0,hmP1,hmP2,K1]
   rintro i7 c11 E12 m13 ⟨v8,v9,o_v8,j_v8,j10,e14⟩ _
   rcases c11 with _ | c11
   ·cases j10
   rw [cF] at j10;refine aN (aN (aR λ_ z=>?_));have K2:=qJ3 K1 c5 e14;simp only [go_sem,seval,bZ hpP0,bZ hpP1,bZ hpP2,hn0_1,hn0_2,hn1_0,hn1_2,hn2_0,hn2_1,K2];apply z;simp only [aE,aC];refine lL j10 (λc15 j10=>?_) (λc15 j10=>?_)
   ·refine fO ?_
    try simp only [aE,aC]
    refine gN (aN ?_);obtain ⟨x16,h17,j10⟩:=aH j10;obtain ⟨f18,j10⟩:=dK j10;have f19:v8.length+1<=1073741824:=by first | omega | (simp only [mK,gK,iT] at f18 ⊢;omega)
    have f20:v8.length<=1073741823:=by first | omega | (simp only [mK,gK,iT] at f18 ⊢;omega)
    refine aR λ_ z=>?_;have K3:=qJ5 K2 c15 f18 f19 f20;simp only [go_sem,seval,bZ hpP0,bZ hpP1,bZ hpP2,hn0_1,hn0_2,hn1_0,hn1_2,hn2_0,hn2_1,K3];refine SC.by_ (xG v9 a1 _ h17 _ _ _ P0 P1 P2 (by simp only [go_sem,seval,bZ hpP0,bZ hpP1,bZ hpP2,hn0_1,hn0_2,hn1_0,hn1_2,hn2_0,hn2_1,K3])) ?_;simp only [go_sem,seval,bZ hpP0,bZ hpP1,bZ hpP2,hn0_1,hn0_2,hn1_0,hn1_2,hn2_0,hn2_1,K3];apply z;simp only [aE,aC];refine aN ?_;obtain ⟨x21,h22,j10⟩:=aH j10;refine aR λ_ z=>?_;simp only [go_sem,seval,bZ hpP0,bZ hpP1,bZ hpP2,hn0_1,hn0_2,hn1_0,hn1_2,hn2_0,hn2_1,K3];refine SC.by_ (oA n x16.2 ([44]:cB) _ h22 _ _ _ P0 (by simp only [go_sem,seval,bZ hpP0,bZ hpP1,bZ hpP2,hn0_1,hn0_2,hn1_0,hn1_2,hn2_0,hn2_1,K3])) ?_;simp only [go_sem,seval,bZ hpP0,bZ hpP1,bZ hpP2,hn0_1,hn0_2,hn1_0,hn1_2,hn2_0,hn2_1,K3];apply z;simp only [aE,aC];refine lL j10 (λc23 j10=>?_) (λc23 j10=>?_)
    ·refine oK ?_
     try simp only [seval,aW,aU,aE,aC]
     cases j10;cases j6;refine ⟨by decide,(9::i7::7::q),0,?_⟩;simp only [go_sem,seval,bJ,bG,aV,bC,bH hpP0,bH hpP1,bH hpP2,l0,bZ hpP0,bZ hpP1,bZ hpP2,hn0_1,hn0_2,hn1_0,hn1_2,hn2_0,hn2_1,c23,K3]
    ·refine fO ?_
     try simp only [aE,aC]
     refine ⟨c11,MV _,(v8++[x16.1]),x21.2,(9::i7::7::q),0,j10,?_⟩;simp only [go_sem,seval,bJ,bG,aV,bC,bH hpP0,bH hpP1,bH hpP2,l0,bZ hpP0,bZ hpP1,bZ hpP2,hn0_1,hn0_2,hn1_0,hn1_2,hn2_0,hn2_1,c23,K3]
   ·refine oK ?_
    try simp only [seval,aW,aU,aE,aC]
    cases j10;cases j6;refine ⟨by decide,o_v8,j_v8,?_⟩;simp only [go_sem,seval,bJ,bG,aV,bC,bH hpP0,bH hpP1,bH hpP2,l0,bZ hpP0,bZ hpP1,bZ hpP2,hn0_1,hn0_2,hn1_0,hn1_2,hn2_0,hn2_1,c15,K2]
  ·rintro E24 m25 ⟨oy6_5,jy6_5,e26⟩ _;simp only [aE,aC];refine aN ?_;obtain ⟨x27,h28,h⟩:=aH h;refine aR λ_ z=>?_;have K4:=qJ3 K1 c5 e26;simp only [go_sem,seval,bZ hpP0,bZ hpP1,bZ hpP2,hn0_1,hn0_2,hn1_0,hn1_2,hn2_0,hn2_1,K4];refine SC.by_ (oC n y6.2 ([41]:cB) _ h28 _ _ _ P0 (by simp only [go_sem,seval,bZ hpP0,bZ hpP1,bZ hpP2,hn0_1,hn0_2,hn1_0,hn1_2,hn2_0,hn2_1,K4])) ?_;simp only [go_sem,seval,bZ hpP0,bZ hpP1,bZ hpP2,hn0_1,hn0_2,hn1_0,hn1_2,hn2_0,hn2_1,K4];apply z;simp only [aE,aC];refine aN (aR λ_ z=>?_);simp only [go_sem,seval,bZ hpP0,bZ hpP1,bZ hpP2,hn0_1,hn0_2,hn1_0,hn1_2,hn2_0,hn2_1,K4];apply z;simp only [aE,aC];refine gB ?_
   try simp only [aT,aP]
   cases h;refine ⟨by simp,?_⟩;simp only [go_sem,seval,bJ,bG,aV,bC,bH hpP0,bH hpP1,bH hpP2,l0,bZ hpP0,bZ hpP1,bZ hpP2,hn0_1,hn0_2,hn1_0,hn1_2,hn2_0,hn2_1,K4]
theorem AN {dE} (qK:mO dE) (n:Nat):jY (gI dE n):=haveI:qW 88 (mO dE):=⟨qK⟩;λa0 a1 r h q m vs P0 ⟨hv,hmP0,_,_⟩=>SC.wva hv (SC.ac hmP0 λ_ _ _=>gO func70 call70 ntmps70 results70 rfl (wk .z q m (gI.eq_1 _ _ _ _) h))
theorem Aj {dA} (pU:lO dA) {dE} (qK:mO dE) (n:Nat):mO (eP dA dE n):=haveI:qW 95 (lO dA):=⟨pU⟩;haveI:qW 88 (mO dE):=⟨qK⟩;λa0 a1 a2 r h q m vs P0 ⟨hv,hmP0,_,_⟩=>SC.wva hv (SC.ac hmP0 λ_ _ _=>gO func88 call88 ntmps88 results88 rfl (wk (.c .z (.l [.v 8 cB λy=>.ls y,.b 0 aA λy=>(aA.C y),.b 7 aB λy=>(aB.C y)] [0,1,2,6,7] [6] [] none .z .z)) q m (eP.eq_1 _ _ _ _ _ _) h))
instance:SH fH 2:=⟨by decide⟩
@[go_sem low] theorem GU {n:Nat}:List.drop n [V.lit (.string (bs ([126]:cB))),V.lit (.string (bs ([45]:cB)))]=Mf cS fH[n]? ++ cA cS (fH.drop (n+1)):=Lj (f:=cS) (l:=fH)
theorem yH {eT} (qY:jY eT) {dA} (pU:lO dA) {iX} (uA:lX iX) (n:Nat):lO (bV eT dA iX n):=haveI:qW 70 (jY eT):=⟨qY⟩;haveI:qW 95 (lO dA):=⟨pU⟩;haveI:qW 37 (lX iX):=⟨uA⟩;λa0 a1 r h q m vs P0 ⟨hv,hmP0,_,_⟩=>SC.wva hv (SC.ac hmP0 λ_ _ _=>gO func95 call95 ntmps95 results95 rfl (wk (.c .z (.l [.v 24 Int λy=>.li y,.b 0 aA λy=>(aA.C y),.b 6 aB λy=>[.li y.bT,.li y.eO,.ls y.bQ,.lw y.kL,.list .self (y.aL.map aB.C)],.b 4 aB λy=>[.li y.bT,.li y.eO,.ls y.bQ,.lw y.kL,.list .self (y.aL.map aB.C)]] [0,2,3,4,6,23] [2,3] [] none .z (.j 2 14 26 [.v 51 Bool λy=>.lb y] [0,2,3,4,6] [0,6,2,3,4] [] none .z (.c .z (.j 1 2 47 [.b 0 aA λy=>(aA.C y),.b 6 aB λy=>(aB.C y)] [0,4,6] [4] [(6,4)] none .z .z))))) q m (bV.eq_1 _ _ _ _ _ _) h))
theorem xC {eT} (qY:jY eT) (n:Nat):qC (dI eT n):=haveI:qW 70 (jY eT):=⟨qY⟩;λa0 a1 r h q m vs P0 P1 P2 ⟨hv,hmP0,hmP1,hmP2,_,_,_,_,_,_,_,_⟩=>SC.wva hv (SC.ac hmP0 λ_ _ _=>SC.ac hmP1 λ_ _ _=>SC.ac hmP2 λ_ _ _=>gO func103 call103 ntmps103 results103 rfl (wk .z q m (dI.eq_1 _ _ _ _) h))
theorem pF:∀n,lX (kH n)/\jY (cM n)/\mO (kR n)/\lO (dB n)/\qC (qX n)
 | 0=>⟨λ_ _ _ h=>kJ h,λ_ _ _ h=>kJ h,λ_ _ _ _ h=>kJ h,λ_ _ _ h=>kJ h,λ_ _ _ h=>kJ h⟩
 | n+1=>
   have ih:=pF n
   ⟨tU ih.2.2.2.2 n,AN ih.2.2.1 n,Aj ih.2.2.2.1 ih.2.2.1 n,yH ih.2.1 ih.2.2.2.1 ih.1 n,xC ih.2.1 n⟩
theorem Ch (n:Nat):jY (cM n):=(pF n).2.1
instance:qW 70 (∀n,jY (cM n)):=⟨Ch⟩
def vI (f:aA->aB->Int->Option (aB × aA)):Prop:=∀a0 a1 a2 r,f a0 a1 a2=some r->∀(q:Pa) (m:M) (vs:List V) (P0:Pa),vs.map V.weak1=[.ptr P0 0,.agg ((aB.C a1)),.li a2]/\m.blk P0=some ((aA.C a0))/\m.gl 2=.eptr [(cA cS cE)] 0 0/\m.gl 4=.eptr [(cA (cA cS) cQ)] 0 0->SC prog 69 vs q m (λv Y=>v=.agg ((aB.C r.1))/\Y=(m.set P0 ((aA.C r.2))))
theorem Bp (n:Nat):vI (fK n):=λa0 a1 a2 r h q m vs P0 ⟨hv,hmP0,_,_⟩=>SC.wva hv (SC.ac hmP0 λ_ _ _=>gO func69 call69 ntmps69 results69 rfl (wk .z q m (fK.eq_1 _ _ _ _) h))
instance:qW 69 (∀n,vI (fK n)):=⟨Bp⟩
def AK (f:aA->Int->Option (aB × aA)):Prop:=∀a0 a1 r,f a0 a1=some r->∀(q:Pa) (m:M) (vs:List V) (P0:Pa) (P1:Pa) (P2:Pa),vs.map V.weak1=[.ptr P1 0,.ptr P2 0]/\m.blk P0=some ((aA.C a0))/\m.blk P1=some ([.ptr P0 0])/\m.blk P2=some ([.li a1])/\(P0=P1)=False/\(P0=P2)=False/\(P1=P0)=False/\(P1=P2)=False/\(P2=P0)=False/\(P2=P1)=False/\m.gl 2=.eptr [(cA cS cE)] 0 0/\m.gl 4=.eptr [(cA (cA cS) cQ)] 0 0->SC prog 89 vs q m (λv Y=>v=.agg ((aB.C r.1))/\Y=(m.set P0 ((aA.C r.2))))
theorem Ai (n:Nat):AK (fW n):=λa0 a1 r h q m vs P0 P1 P2 ⟨hv,hmP0,hmP1,hmP2,_,_,_,_,_,_,_,_⟩=>SC.wva hv (SC.ac hmP0 λ_ _ _=>SC.ac hmP1 λ_ _ _=>SC.ac hmP2 λ_ _ _=>gO func89 call89 ntmps89 results89 rfl (wk .z q m (fW.eq_1 _ _ _) h))
def rL (f:aA->Int->Option ((List aB) × aA)):Prop:=∀a0 a1 r,f a0 a1=some r->∀(q:Pa) (m:M) (vs:List V) (P0:Pa) (P1:Pa) (P2:Pa),vs.map V.weak1=[.ptr P0 0,.fn (.func 89) [] [.ptr P1 0,.ptr P2 0]]/\m.blk P0=some ((aA.C a0))/\m.blk P1=some ([.ptr P0 0])/\m.blk P2=some ([.li a1])/\(P0=P1)=False/\(P0=P2)=False/\(P1=P0)=False/\(P1=P2)=False/\(P2=P0)=False/\(P2=P1)=False/\m.gl 2=.eptr [(cA cS cE)] 0 0/\m.gl 4=.eptr [(cA (cA cS) cQ)] 0 0->SC prog 37 vs q m (λv Y=>v=.list .none (r.1.map aB.C)/\Y=(m.set P0 ((aA.C r.2))))
theorem vZ (n:Nat):rL (cX n):=by
 rintro a0 a1 r h q m vs P0 P1 P2 ⟨hv,hmP0,hmP1,hmP2,hn0_1,hn0_2,hn1_0,hn1_2,hn2_0,hn2_1,hg2,hg4⟩;refine SC.wv hv ?_;refine SC.apart hmP0 λhpP0=>?_;refine SC.apart hmP1 λhpP1=>?_;refine SC.apart hmP2 λhpP2=>?_;have l0:=EP hmP0
 try simp only [go_sem,seval] at hmP0 l0
 skip
 try simp only [go_sem,seval] at hmP2
 refine vC func37 call37 ntmps37 results37 ?_;unfold cX at h;refine aN (aR λ_ z=>?_);have K1:=qJ2 hg2 hg4;simp only [go_sem,seval,bZ hpP0,bZ hpP1,bZ hpP2,hn0_1,hn0_2,hn1_0,hn1_2,hn2_0,hn2_1,hmP0,hmP1,hmP2,K1];apply z;simp only [aE,aC];refine aN (aR λ_ z=>?_);simp only [go_sem,seval,bZ hpP0,bZ hpP1,bZ hpP2,hn0_1,hn0_2,hn1_0,hn1_2,hn2_0,hn2_1,hmP0,hmP1,hmP2,K1];apply z;simp only [aE,aC];refine aN ?_;obtain ⟨x1,h2,h⟩:=aH h;refine aR λ_ z=>?_;simp only [go_sem,seval,bZ hpP0,bZ hpP1,bZ hpP2,hn0_1,hn0_2,hn1_0,hn1_2,hn2_0,hn2_1,hmP0,hmP1,hmP2,K1];refine SC.by_ (oC n a0 ([40]:cB) _ h2 _ _ _ P0 (by simp only [go_sem,seval,bZ hpP0,bZ hpP1,bZ hpP2,hn0_1,hn0_2,hn1_0,hn1_2,hn2_0,hn2_1,hmP0,hmP1,hmP2,K1])) ?_;simp only [go_sem,seval,bZ hpP0,bZ hpP1,bZ hpP2,hn0_1,hn0_2,hn1_0,hn1_2,hn2_0,hn2_1,hmP0,hmP1,hmP2,K1];apply z;simp only [aE,aC];refine aN (aN ?_);obtain ⟨x3,h4,h⟩:=aH h;refine aR λ_ z=>?_;simp only [go_sem,seval,bZ hpP0,bZ hpP1,bZ hpP2,hn0_1,hn0_2,hn1_0,hn1_2,hn2_0,hn2_1,hmP0,hmP1,hmP2,K1];refine SC.by_ (oA n x1 ([41]:cB) _ h4 _ _ _ P0 (by simp only [go_sem,seval,bZ hpP0,bZ hpP1,bZ hpP2,hn0_1,hn0_2,hn1_0,hn1_2,hn2_0,hn2_1,hmP0,hmP1,hmP2,K1])) ?_;simp only [go_sem,seval,bZ hpP0,bZ hpP1,bZ hpP2,hn0_1,hn0_2,hn1_0,hn1_2,hn2_0,hn2_1,hmP0,hmP1,hmP2,K1];apply z;simp only [aE,aC];refine lL h (λc5 h=>?_) (λc5 h=>?_)
 ·refine aN (aR λ_ z=>?_);simp only [go_sem,seval,bZ hpP0,bZ hpP1,bZ hpP2,hn0_1,hn0_2,hn1_0,hn1_2,hn2_0,hn2_1,c5,hmP0,hmP1,hmP2,K1];apply z;simp only [aE,aC];refine gB ?_
  try simp only [aT,aP]
  cases h;refine ⟨by simp,?_⟩;simp only [go_sem,seval,bJ,bG,aV,bC,bH hpP0,bH hpP1,bH hpP2,l0,bZ hpP0,bZ hpP1,bZ hpP2,hn0_1,hn0_2,hn1_0,hn1_2,hn2_0,hn2_1,c5,hmP0,hmP1,hmP2,K1]
 ·refine fO ?_
  try simp only [aE,aC]
  refine aN ?_;obtain ⟨y6,j6,h⟩:=aH h;refine Ae 8 (λX Y=>∃(oy6_5:Pa) (jy6_5:Nat),X 0=.ptr P0 0/\X 5=.list (.st (.anon oy6_5 jy6_5)) (y6.1.map aB.C)/\Y.tok oy6_5 jy6_5=true/\q <:+ oy6_5/\Y.blk P0=some ((aA.C y6.2))/\Y.blk P1=some ([.ptr P0 0])/\Y.blk P2=some ([.li a1])/\Y.gl=m.gl/\m.back q Y=(m.set P0 ((aA.C y6.2)))) ?_ ?_
  ·refine gN ?_;obtain ⟨y10,j10,j6⟩:=aH j6;refine Fm 5 ([].map aB.C) rfl (by simp only [go_sem,seval,bZ hpP0,bZ hpP1,bZ hpP2,hn0_1,hn0_2,hn1_0,hn1_2,hn2_0,hn2_1,c5,hmP0,hmP1,hmP2,K1]) ?_;refine yE (λc X Y=>∃v8 v9 o_v8 j_v8,cN n a1 c v8 v9=some y10/\X 0=.ptr P0 0/\X 1=.fn (.func 89) [] [.ptr P1 0,.ptr P2 0]/\X 5=.list (.st (.anon o_v8 j_v8)) (v8.map aB.C)/\Y.tok o_v8 j_v8=true/\q <:+ o_v8/\Y.blk P0=some ((aA.C v9))/\Y.blk P1=some ([.ptr P0 0])/\Y.blk P2=some ([.li a1])/\Y.gl=m.gl/\m.back q Y=(m.set P0 ((aA.C v9)))) n ⟨[],x3.2,(6::q),0,j10,?_⟩ ?_
   ·simp only [go_sem,seval,bJ,bG,aV,bC,bH hpP0,bH hpP1,bH hpP2,l0,bZ hpP0,bZ hpP1,bZ hpP2,hn0_1,hn0_2,hn1_0,hn1_2,hn2_0,hn2_1,c5,hmP0,hmP1,hmP2,K1]
   rintro i7 c11 E12 m13 ⟨v8,v9,o_v8,j_v8,j10,e14⟩ _
   rcases c11 with _ | c11
   ·cases j10
   rw [cN] at j10;refine aN (aN (aR λ_ z=>?_));have K2:=qJ3 K1 c5 e14;simp only [go_sem,seval,bZ hpP0,bZ hpP1,bZ hpP2,hn0_1,hn0_2,hn1_0,hn1_2,hn2_0,hn2_1,K2];apply z;simp only [aE,aC];refine lL j10 (λc15 j10=>?_) (λc15 j10=>?_)
   ·refine fO ?_
    try simp only [aE,aC]
    refine gN (aN ?_);obtain ⟨x16,h17,j10⟩:=aH j10;obtain ⟨f18,j10⟩:=dK j10;have f19:v8.length+1<=1073741824:=by first | omega | (simp only [mK,gK,iT] at f18 ⊢;omega)
    have f20:v8.length<=1073741823:=by first | omega | (simp only [mK,gK,iT] at f18 ⊢;omega)
    refine aR λ_ z=>?_;have K3:=qJ5 K2 c15 f18 f19 f20;simp only [go_sem,seval,bZ hpP0,bZ hpP1,bZ hpP2,hn0_1,hn0_2,hn1_0,hn1_2,hn2_0,hn2_1,K3];refine SC.by_ (Ai n v9 a1 _ h17 _ _ _ P0 P1 P2 (by simp only [go_sem,seval,bZ hpP0,bZ hpP1,bZ hpP2,hn0_1,hn0_2,hn1_0,hn1_2,hn2_0,hn2_1,K3])) ?_;simp only [go_sem,seval,bZ hpP0,bZ hpP1,bZ hpP2,hn0_1,hn0_2,hn1_0,hn1_2,hn2_0,hn2_1,K3];apply z;simp only [aE,aC];refine aN ?_;obtain ⟨x21,h22,j10⟩:=aH j10;refine aR λ_ z=>?_;simp only [go_sem,seval,bZ hpP0,bZ hpP1,bZ hpP2,hn0_1,hn0_2,hn1_0,hn1_2,hn2_0,hn2_1,K3];refine SC.by_ (oA n x16.2 ([44]:cB) _ h22 _ _ _ P0 (by simp only [go_sem,seval,bZ hpP0,bZ hpP1,bZ hpP2,hn0_1,hn0_2,hn1_0,hn1_2,hn2_0,hn2_1,K3])) ?_;simp only [go_sem,seval,bZ hpP0,bZ hpP1,bZ hpP2,hn0_1,hn0_2,hn1_0,hn1_2,hn2_0,hn2_1,K3];apply z;simp only [aE,aC];refine lL j10 (λc23 j10=>?_) (λc23 j10=>?_)
    ·refine oK ?_
     try simp only [seval,aW,aU,aE,aC]
     cases j10;cases j6;refine ⟨by decide,(9::i7::7::q),0,?_⟩;simp only [go_sem,seval,bJ,bG,aV,bC,bH hpP0,bH hpP1,bH hpP2,l0,bZ hpP0,bZ hpP1,bZ hpP2,hn0_1,hn0_2,hn1_0,hn1_2,hn2_0,hn2_1,c23,K3]
    ·refine fO ?_
     try simp only [aE,aC]
     refine ⟨c11,MV _,(v8++[x16.1]),x21.2,(9::i7::7::q),0,j10,?_⟩;simp only [go_sem,seval,bJ,bG,aV,bC,bH hpP0,bH hpP1,bH hpP2,l0,bZ hpP0,bZ hpP1,bZ hpP2,hn0_1,hn0_2,hn1_0,hn1_2,hn2_0,hn2_1,c23,K3]
   ·refine oK ?_
    try simp only [seval,aW,aU,aE,aC]
    cases j10;cases j6;refine ⟨by decide,o_v8,j_v8,?_⟩;simp only [go_sem,seval,bJ,bG,aV,bC,bH hpP0,bH hpP1,bH hpP2,l0,bZ hpP0,bZ hpP1,bZ hpP2,hn0_1,hn0_2,hn1_0,hn1_2,hn2_0,hn2_1,c15,K2]
  ·rintro E24 m25 ⟨oy6_5,jy6_5,e26⟩ _;simp only [aE,aC];refine aN ?_;obtain ⟨x27,h28,h⟩:=aH h;refine aR λ_ z=>?_;have K4:=qJ3 K1 c5 e26;simp only [go_sem,seval,bZ hpP0,bZ hpP1,bZ hpP2,hn0_1,hn0_2,hn1_0,hn1_2,hn2_0,hn2_1,K4];refine SC.by_ (oC n y6.2 ([41]:cB) _ h28 _ _ _ P0 (by simp only [go_sem,seval,bZ hpP0,bZ hpP1,bZ hpP2,hn0_1,hn0_2,hn1_0,hn1_2,hn2_0,hn2_1,K4])) ?_;simp only [go_sem,seval,bZ hpP0,bZ hpP1,bZ hpP2,hn0_1,hn0_2,hn1_0,hn1_2,hn2_0,hn2_1,K4];apply z;simp only [aE,aC];refine aN (aR λ_ z=>?_);simp only [go_sem,seval,bZ hpP0,bZ hpP1,bZ hpP2,hn0_1,hn0_2,hn1_0,hn1_2,hn2_0,hn2_1,K4];apply z;simp only [aE,aC];refine gB ?_
   try simp only [aT,aP]
   cases h;refine ⟨by simp,?_⟩;simp only [go_sem,seval,bJ,bG,aV,bC,bH hpP0,bH hpP1,bH hpP2,l0,bZ hpP0,bZ hpP1,bZ hpP2,hn0_1,hn0_2,hn1_0,hn1_2,hn2_0,hn2_1,K4]
def vG (f:aA->aB->Int->Option (aB × aA)):Prop:=∀a0 a1 a2 r,f a0 a1 a2=some r->∀(q:Pa) (m:M) (vs:List V) (P0:Pa),vs.map V.weak1=[.ptr P0 0,.agg ((aB.C a1)),.li a2]/\m.blk P0=some ((aA.C a0))/\m.gl 2=.eptr [(cA cS cE)] 0 0/\m.gl 4=.eptr [(cA (cA cS) cQ)] 0 0->SC prog 73 vs q m (λv Y=>v=.agg ((aB.C r.1))/\Y=(m.set P0 ((aA.C r.2))))
theorem Bn (n:Nat):vG (fI n):=λa0 a1 a2 r h q m vs P0 ⟨hv,hmP0,_,_⟩=>SC.wva hv (SC.ac hmP0 λ_ _ _=>haveI:qW 37 (∀n,rL (cX n)):=⟨vZ⟩;gO func73 call73 ntmps73 results73 rfl (wk (.j 1 0 37 [.b 0 aA λy=>(aA.C y),.b 4 aB λy=>(aB.C y)] [0,3,4,6] [3,6] [(4,4)] none .z .z) q m (fI.eq_1 _ _ _ _) h))
instance:qW 73 (∀n,vG (fI n)):=⟨Bn⟩
def jN (f:aA->Int->Option (aB × aA)):Prop:=∀a0 a1 r,f a0 a1=some r->∀(q:Pa) (m:M) (vs:List V) (P0:Pa),vs.map V.weak1=[.ptr P0 0,.li a1]/\m.blk P0=some ((aA.C a0))/\m.gl 2=.eptr [(cA cS cE)] 0 0/\m.gl 4=.eptr [(cA (cA cS) cQ)] 0 0->SC prog 39 vs q m (λv Y=>v=.agg ((aB.C r.1))/\Y=(m.set P0 ((aA.C r.2))))
def oB (f:aA->Int->Option (aB × aA)):Prop:=∀a0 a1 r,f a0 a1=some r->∀(q:Pa) (m:M) (vs:List V) (P0:Pa),vs.map V.weak1=[.ptr P0 0,.li a1]/\m.blk P0=some ((aA.C a0))/\m.gl 2=.eptr [(cA cS cE)] 0 0/\m.gl 4=.eptr [(cA (cA cS) cQ)] 0 0->SC prog 55 vs q m (λv Y=>v=.agg ((aB.C r.1))/\Y=(m.set P0 ((aA.C r.2))))
def pG (f:aA->aB->Int->Option (aB × aA)):Prop:=∀a0 a1 a2 r,f a0 a1 a2=some r->∀(q:Pa) (m:M) (vs:List V) (P0:Pa),vs.map V.weak1=[.ptr P0 0,.agg ((aB.C a1)),.li a2]/\m.blk P0=some ((aA.C a0))/\m.gl 2=.eptr [(cA cS cE)] 0 0/\m.gl 4=.eptr [(cA (cA cS) cQ)] 0 0->SC prog 71 vs q m (λv Y=>v=.agg ((aB.C r.1))/\Y=(m.set P0 ((aA.C r.2))))
def qE (f:aA->aB->Int->Option (aB × aA)):Prop:=∀a0 a1 a2 r,f a0 a1 a2=some r->∀(q:Pa) (m:M) (vs:List V) (P0:Pa),vs.map V.weak1=[.ptr P0 0,.agg ((aB.C a1)),.li a2]/\m.blk P0=some ((aA.C a0))/\m.gl 2=.eptr [(cA cS cE)] 0 0/\m.gl 4=.eptr [(cA (cA cS) cQ)] 0 0->SC prog 72 vs q m (λv Y=>v=.agg ((aB.C r.1))/\Y=(m.set P0 ((aA.C r.2))))
theorem Ak {fZ} (xF:oB fZ) (n:Nat):jN (dC fZ n):=haveI:qW 55 (oB fZ):=⟨xF⟩;λa0 a1 r h q m vs P0 ⟨hv,hmP0,_,_⟩=>SC.wva hv (SC.ac hmP0 λ_ _ _=>gO func39 call39 ntmps39 results39 rfl (wk (.l [.b 0 aA λy=>(aA.C y),.b 5 aB λy=>[.li y.bT,.li y.eO,.ls y.bQ,.lw y.kL,.list .self (y.aL.map aB.C)]] [0,1,4,5] [4] [] none (.j 2 4 10 [.v 22 Bool λy=>.lb y] [0,1,4,5] [0,4,5] [] none .z .z) .z) q m (dC.eq_1 _ _ _ _) h))
theorem xB {mR} (zZ:pG mR) {nP} (Bd:qE nP) (n:Nat):oB (bF mR nP n):=haveI:qW 71 (pG mR):=⟨zZ⟩;haveI:qW 72 (qE nP):=⟨Bd⟩;λa0 a1 r h q m vs P0 ⟨hv,hmP0,_,_⟩=>SC.wva hv (SC.ac hmP0 λ_ _ _=>gO func55 call55 ntmps55 results55 rfl (wk (.j 11 0 26 [.b 0 aA λy=>(aA.C y),.b 5 aB λy=>[.li y.bT,.li y.eO,.ls y.bQ,.lw y.kL,.list .self (y.aL.map aB.C)]] [0,4,5] [4] [] none .z .z) q m (bF.eq_1 _ _ _ _ _) h))
theorem zI {eL} (qL:jN eL) (n:Nat):pG (eD eL n):=haveI:qW 39 (jN eL):=⟨qL⟩;λa0 a1 a2 r h q m vs P0 ⟨hv,hmP0,_,_⟩=>SC.wva hv (SC.ac hmP0 λ_ _ _=>gO func71 call71 ntmps71 results71 rfl (wk .z q m (eD.eq_1 _ _ _ _ _) h))
theorem AM {eL} (qL:jN eL) (n:Nat):qE (gH eL n):=haveI:qW 39 (jN eL):=⟨qL⟩;λa0 a1 a2 r h q m vs P0 ⟨hv,hmP0,_,_⟩=>SC.wva hv (SC.ac hmP0 λ_ _ _=>gO func72 call72 ntmps72 results72 rfl (wk .z q m (gH.eq_1 _ _ _ _ _) h))
theorem sO:∀n,jN (bN n)/\oB (lN n)/\pG (hY n)/\qE (jF n)
 | 0=>⟨λ_ _ _ h=>kJ h,λ_ _ _ h=>kJ h,λ_ _ _ _ h=>kJ h,λ_ _ _ _ h=>kJ h⟩
 | n+1=>
   have ih:=sO n
   ⟨Ak ih.2.1 n,xB ih.2.2.1 ih.2.2.2 n,zI ih.1 n,AM ih.1 n⟩
theorem Bq (n:Nat):jN (bN n):=(sO n).1
instance:qW 39 (∀n,jN (bN n)):=⟨Bq⟩
def tH (f:aA->Option (aB × aA)):Prop:=∀a0 r,f a0=some r->∀(q:Pa) (m:M) (vs:List V) (P0:Pa),vs.map V.weak1=[.ptr P0 0]/\m.blk P0=some ((aA.C a0))/\m.gl 2=.eptr [(cA cS cE)] 0 0/\m.gl 4=.eptr [(cA (cA cS) cQ)] 0 0->SC prog 21 vs q m (λv Y=>v=.agg ((aB.C r.1))/\Y=(m.set P0 ((aA.C r.2))))
theorem zH (n:Nat):tH (eC n):=λa0 r h q m vs P0 ⟨hv,hmP0,_,_⟩=>SC.wva hv (SC.ac hmP0 λ_ _ _=>haveI:qW 37 (∀n,sF (cH n)):=⟨xD⟩;gO func21 call21 ntmps21 results21 rfl (wk .z q m (eC.eq_1 _ _) h))
instance:qW 21 (∀n,tH (eC n)):=⟨zH⟩
def Is (f:cB->Option (aB × Int × Int)):Prop:=∀a0 r,f a0=some r->∀(q:Pa) (m:M) (vs:List V),vs.map V.weak1=[.list .none (mT a0)]/\m.gl 1=.eptr [(cA cS eY)] 0 0/\m.gl 2=.eptr [(cA cS cE)] 0 0/\m.gl 4=.eptr [(cA (cA cS) cQ)] 0 0->SC prog 9 vs q m (λv Y=>v=.tup [.agg ((aB.C r.1)),.li r.2.1,.li r.2.2]/\Y=m)
theorem Hu (n:Nat):Is (mG n):=λa0 r h q m vs ⟨hv,_,_,_⟩=>SC.wva hv (gO func9 call9 ntmps9 results9 rfl (wk (.c .z (.l [.b 8 aA λy=>(aA.C y),.b 9 aB λy=>[.li y.bT,.li y.eO,.ls y.bQ,.lw y.kL,.list .self (y.aL.map aB.C)]] [2,8,9] [2] [] none (.j 2 6 11 [.v 36 Bool λy=>.lb y] [2,8,9] [2,8,9] [] none .z .z) .z)) q m (mG.eq_1 _ _) h))
