import Derived.Test.YtknbgnpeiohifaaGreatDoorGH4
import Derived.Test.YtknbgnpeiohifaaGreatDoorGAw
namespace Go.Proofs.YtknbgnpeiohifaaGreatDoor.Abs
open Go.RowKit Tryz
open IntKind (i64 u32 u64 u8)
set_option linter.all false
set_option maxRecDepth 10000
set_option maxHeartbeats 2000000
set_option maxHeartbeats 2000000
open Tryz
instance:MP bK.C 2:=⟨λx=>by rw [bK.C_eq];rfl⟩
instance:MP bG.C 2:=⟨λx=>by rw [bG.C_eq];rfl⟩
instance:MP bT.C 2:=⟨λx=>by rw [bT.C_eq];rfl⟩
instance:MP bP.C 2:=⟨λx=>by rw [bP.C_eq];rfl⟩
instance:Ud gL 26:=⟨zc⟩
instance:Ud cV 5:=⟨zc⟩
instance:Ud dW 32:=⟨zc⟩
instance:Ud dR 8:=⟨zc⟩
def MY (f:Int->Option Bool):Prop:=∀a0 r,f a0=some r->By prog 200 [.lit (.int .u8 a0)] (.lb r)
theorem RH:MY (DL):=λa0 r h q m vs hv=>SC.wva hv (cH func200 call200 ntmps200 results200 rfl (wk (.j 2 1 16 [.v 2 Bool λy=>.lb y] [] [] [] none .z .z) q m (DL.eq_1 _) h))
instance:iQ 200 (MY DL):=⟨RH⟩
def vF (f:cB->cB->Option Bool):Prop:=∀a0 a1 r,f a0 a1=some r->By prog 258 [.ls a0,.ls a1] (.lb r)
theorem AC:vF (gN):=λa0 a1 r h q m vs hv=>SC.wva hv (cH func258 call258 ntmps258 results258 rfl (wk (.j 2 1 15 [.v 4 Bool λy=>.lb y] [] [] [] none .z .z) q m (gN.eq_1 _ _) h))
instance:iQ 258 (vF gN):=⟨AC⟩
def Dk (f:cB->cB->Option Bool):Prop:=∀a0 a1 r,f a0 a1=some r->By prog 201 [.ls a0,.ls a1] (.lb r)
theorem Jd:Dk (pB):=λa0 a1 r h q m vs hv=>SC.wva hv (cH func201 call201 ntmps201 results201 rfl (wk .z q m (pB.eq_1 _ _) h))
instance:iQ 201 (Dk pB):=⟨Jd⟩
def uJ (f:cB->Int->Option Int):Prop:=∀a0 a1 r,f a0 a1=some r->By prog 302 [.ls a0,.lit (.int .u8 a1)] (.li r)
theorem zL:uJ pT:=by
 intro a0 a1 r h q m vs hv;refine SC.weak ?_;rw [hv];cases h;intro c xs w h1 h2 h3;obtain ⟨x,xs,rfl,k1,k2⟩:=h2.uncons;obtain ⟨y,rfl,k3⟩:=k2.inv_one;obtain rfl:=k1.inv_lit;obtain rfl:=k3.inv_lit;refine .inr ⟨.int .i64 (Lib.indexByte a0 a1.toNat.toUInt8),w,?_,_,c,_,m,rfl,⟨rfl,rfl⟩,h1,.refl q c m w,.lit .nil⟩;rw [run_callFunc_extern (fn:=f302) (e:=Extern.BytealgIndexByte.indexByte) func302 ze ze ze (by rfl)];have:=Lib.run_indexByteString (P:=prog) (bs a0) a1 w;rw [this];rfl
instance:iQ 302 (uJ pT):=⟨zL⟩
def vE (f:cB->Int->Option Int):Prop:=∀a0 a1 r,f a0 a1=some r->By prog 259 [.ls a0,.lit (.int .u8 a1)] (.li r)
theorem AB:vE (mR):=λa0 a1 r h q m vs hv=>SC.wva hv (cH func259 call259 ntmps259 results259 rfl (wk .z q m (mR.eq_1 _ _) h))
instance:iQ 259 (vE mR):=⟨AB⟩
def Dj (f:cB->Int->Option Int):Prop:=∀a0 a1 r,f a0 a1=some r->By prog 202 [.ls a0,.lit (.int .u8 a1)] (.li r)
theorem Jc:Dj (pA):=λa0 a1 r h q m vs hv=>SC.wva hv (cH func202 call202 ntmps202 results202 rfl (wk .z q m (pA.eq_1 _ _) h))
instance:iQ 202 (Dj pA):=⟨Jc⟩
def OJ (f:cB->Int->Option Int):Prop:=∀a0 a1 r,f a0 a1=some r->By prog 128 [.ls a0,.li a1] (.li r)
theorem Tx (n:Nat):OJ (Ew n):=λa0 a1 r h q m vs hv=>SC.wva hv (cH func128 call128 ntmps128 results128 rfl (wk (.l [.v 1 Int λy=>.li y] [0] [] [] none .z .z) q m (Ew.eq_1 _ _ _) h))
instance:iQ 128 (∀n,OJ (Ew n)):=⟨Tx⟩
def LO (f:Int->Option Bool):Prop:=∀a0 r,f a0=some r->By prog 204 [.lit (.int .u8 a0)] (.lb r)
theorem Qe:LO (Ad):=λa0 r h q m vs hv=>SC.wva hv (cH func204 call204 ntmps204 results204 rfl (wk (.j 2 1 12 [.v 2 Bool λy=>.lb y] [] [] [] none .z .z) q m (Ad.eq_1 _) h))
instance:iQ 204 (LO Ad):=⟨Qe⟩
def MZ (f:Int->Option Bool):Prop:=∀a0 r,f a0=some r->By prog 205 [.lit (.int .u8 a0)] (.lb r)
theorem RI:MZ (BT):=λa0 r h q m vs hv=>SC.wva hv (cH func205 call205 ntmps205 results205 rfl (wk (.j 2 1 8 [.v 2 Bool λy=>.lb y] [] [] [] none .z .z) q m (BT.eq_1 _) h))
instance:iQ 205 (MZ BT):=⟨RI⟩
def OI (f:cB->Option cB):Prop:=∀a0 r,f a0=some r->By prog 203 [.ls a0] (.ls r)
theorem Tw (n:Nat):OI (Hj n):=λa0 r h q m vs hv=>SC.wva hv (cH func203 call203 ntmps203 results203 rfl (wk (.l [.v 6 Int λy=>.li y] [0,5] [] [] none (.c (.j 2 4 15 [.v 20 Bool λy=>.lb y] [0,3,5,6] [] [] none .z .z) .z) .z) q m (Hj.eq_1 _ _) h))
instance:iQ 203 (∀n,OI (Hj n)):=⟨Tw⟩
def vG (f:cB->cB->Option (cB × Bool)):Prop:=∀a0 a1 r,f a0 a1=some r->By prog 303 [.ls a0,.ls a1] (.tup [.ls r.1,.lb r.2])
theorem AD:vG (kB):=λa0 a1 r h q m vs hv=>SC.wva hv (cH func303 call303 ntmps303 results303 rfl (wk .z q m (kB.eq_1 _ _) h))
instance:iQ 303 (vG kB):=⟨AD⟩
def Dl (f:cB->cB->Option (cB × Bool)):Prop:=∀a0 a1 r,f a0 a1=some r->By prog 260 [.ls a0,.ls a1] (.tup [.ls r.1,.lb r.2])
theorem Je:Dl (sK):=λa0 a1 r h q m vs hv=>SC.wva hv (cH func260 call260 ntmps260 results260 rfl (wk .z q m (sK.eq_1 _ _) h))
instance:iQ 260 (Dl sK):=⟨Je⟩
def MX (f:cB->Option (Int × Bool)):Prop:=∀a0 r,f a0=some r->By prog 206 [.ls a0] (.tup [.lw r.1,.lb r.2])
theorem RG (n:Nat):MX (DK n):=λa0 r h q m vs hv=>SC.wva hv (cH func206 call206 ntmps206 results206 rfl (wk (.c (.l [.v 7 Int λy=>.li y,.v 19 Int λy=>.li y] [0,4,18] [] [] none (.c (.j 2 11 22 [.v 38 Bool λy=>.lb y] [0,4,7,18,19] [] [] none .z .z) .z) .z) (.l [.v 7 Int λy=>.li y,.v 19 Int λy=>.li y] [0,4,18] [] [] none (.c (.j 2 11 22 [.v 38 Bool λy=>.lb y] [0,4,7,18,19] [] [] none .z .z) .z) .z)) q m (DK.eq_1 _ _) h))
instance:iQ 206 (∀n,MX (DK n)):=⟨RG⟩
def OK (f:cB->Option cB):Prop:=∀a0 r,f a0=some r->∀(q:Pa) (m:M) (vs:List V),vs.map V.weak1=[.ls a0]/\m.gl 2=.eptr [(cA cS gL)] 0 0->SC prog 207 vs q m (λv Y=>v=.ls r/\Y=m)
theorem Ty (n:Nat):OK (Hk n):=λa0 r h q m vs ⟨hv,_⟩=>SC.wva hv (cH func207 call207 ntmps207 results207 rfl (wk (.l [.v 6 Int λy=>.li y] [0,5] [] [] none .z .z) q m (Hk.eq_1 _ _) h))
instance:iQ 207 (∀n,OK (Hk n)):=⟨Ty⟩
def OM (f:cB->Int->Option (eA × Int)):Prop:=∀a0 a1 r,f a0 a1=some r->∀(q:Pa) (m:M) (vs:List V),vs.map V.weak1=[.ls a0,.li a1]/\m.gl 2=.eptr [(cA cS gL)] 0 0->SC prog 129 vs q m (λv Y=>v=.tup [.agg ((eA.C r.1)),.li r.2]/\Y=m)
theorem Tz (n:Nat):OM (Hl n):=λa0 a1 r h q m vs ⟨hv,_⟩=>SC.wva hv (cH func129 call129 ntmps129 results129 rfl (wk .z q m (Hl.eq_1 _ _ _) h))
instance:iQ 129 (∀n,OM (Hl n)):=⟨Tz⟩
def LN (f:cB->Option ((List eA) × Int × Int)):Prop:=∀a0 r,f a0=some r->∀(q:Pa) (m:M) (vs:List V),vs.map V.weak1=[.list .none (sH a0)]/\m.gl 2=.eptr [(cA cS gL)] 0 0->SC prog 73 vs q m (λv Y=>v=.tup [.list .none (r.1.map eA.C),.li r.2.1,.li r.2.2]/\Y=m)
theorem Qd (n:Nat):LN (BS n):=λa0 r h q m vs ⟨hv,_⟩=>SC.wva hv (cH func73 call73 ntmps73 results73 rfl (wk (.c .z (.s 6 (.l [.o 6 (List eA) λy=>(y.map eA.C),.v 7 Int λy=>.li y] [5] [] [] none .z .z))) q m (BS.eq_1 _ _) h))
instance:iQ 73 (∀n,LN (BS n)):=⟨Qd⟩
def AL (f:aD->Option eA):Prop:=∀a0 r,f a0=some r->∀(q:Pa) (m:M) (vs:List V) (P0:Pa),vs.map V.weak1=[.ptr P0 0]/\m.blk P0=some ((aD.C a0))->SC prog 75 vs q m (λv Y=>v=.agg ((eA.C r))/\Y=m)
theorem GI:AL (eD):=λa0 r h q m vs P0 ⟨hv,hmP0⟩=>SC.wva hv (SC.ac hmP0 λ_ _ _=>cH func75 call75 ntmps75 results75 rfl (wk .z q m (eD.eq_1 _) h))
instance:iQ 75 (AL eD):=⟨GI⟩
def BG (f:aD->Int->Option aD):Prop:=∀a0 a1 r,f a0 a1=some r->∀(q:Pa) (m:M) (vs:List V) (P0:Pa),vs.map V.weak1=[.ptr P0 0,.li a1]/\m.blk P0=some ((aD.C a0))->SC prog 130 vs q m (λv Y=>v=.tup []/\Y=(m.set P0 ((aD.C r))))
theorem HY:BG (iY):=λa0 a1 r h q m vs P0 ⟨hv,hmP0⟩=>SC.wva hv (SC.ac hmP0 λ_ _ _=>cH func130 call130 ntmps130 results130 rfl (wk .z q m (iY.eq_1 _ _) h))
instance:iQ 130 (BG iY):=⟨HY⟩
def BD (f:aD->Int->Option (aC × aD)):Prop:=∀a0 a1 r,f a0 a1=some r->∀(q:Pa) (m:M) (vs:List V) (P0:Pa),vs.map V.weak1=[.ptr P0 0,.li a1]/\m.blk P0=some ((aD.C a0))->SC prog 74 vs q m (λv Y=>∃(id:Pa) (j:Nat),q <:+ id/\v=.agg ([.li r.1.bJ,.li r.1.gI,.ls r.1.dM,.lw r.1.pX,.list (.st (.anon id j)) (r.1.aN.map aC.C)])/\Y=(m.set P0 ((aD.C r.2))).tokset id j true)
theorem HW:BD (fP):=λa0 a1 r h q m vs P0 ⟨hv,hmP0⟩=>SC.wva hv (SC.ac hmP0 λ_ _ _=>SC_vo func74 call74 ntmps74 results74 4 rfl λ_=>wk .z q m (fP.eq_1 _ _) h)
instance:iQ 74 (BD fP):=⟨HW⟩
def vR (f:(List cB)->cB->Option Int):Prop:=∀a0 a1 r,f a0 a1=some r->By prog 304 [.list .none (a0.map cS),.ls a1] (.li r)
theorem Bt (n:Nat):vR (kQ n):=λa0 a1 r h q m vs hv=>SC.wva hv (cH func304 call304 ntmps304 results304 rfl (wk (.l [.v 8 Int λy=>.li y] [0,1,7] [] [] none .z .z) q m (kQ.eq_1 _ _ _) h))
instance:iQ 304 (∀n,vR (kQ n)):=⟨Bt⟩
def uN (f:(List cB)->cB->Option Bool):Prop:=∀a0 a1 r,f a0 a1=some r->By prog 261 [.list .none (a0.map cS),.ls a1] (.lb r)
theorem Aa (n:Nat):uN (jQ n):=λa0 a1 r h q m vs hv=>SC.wva hv (cH func261 call261 ntmps261 results261 rfl (wk .z q m (jQ.eq_1 _ _ _) h))
instance:iQ 261 (∀n,uN (jQ n)):=⟨Aa⟩
def LF (f:cB->Option Bool):Prop:=∀a0 r,f a0=some r->∀(q:Pa) (m:M) (vs:List V),vs.map V.weak1=[.ls a0]/\m.gl 3=.eptr [(cA cS cL)] 0 0->SC prog 209 vs q m (λv Y=>v=.lb r/\Y=m)
theorem PU (n:Nat):LF (Ac n):=λa0 r h q m vs ⟨hv,_⟩=>SC.wva hv (cH func209 call209 ntmps209 results209 rfl (wk .z q m (Ac.eq_1 _ _) h))
instance:iQ 209 (∀n,LF (Ac n)):=⟨PU⟩
def Do (f:aD->cB->Option Bool):Prop:=∀a0 a1 r,f a0 a1=some r->∀(q:Pa) (m:M) (vs:List V) (P0:Pa),vs.map V.weak1=[.ptr P0 0,.ls a1]/\m.blk P0=some ((aD.C a0))/\m.gl 3=.eptr [(cA cS cL)] 0 0->SC prog 208 vs q m (λv Y=>v=.lb r/\Y=m)
theorem Cy (n:Nat):Do (kC n):=λa0 a1 r h q m vs P0 ⟨hv,hmP0,_⟩=>SC.wva hv (SC.ac hmP0 λ_ _ _=>cH func208 call208 ntmps208 results208 rfl (wk (.j 2 2 31 [.v 4 Bool λy=>.lb y] [0] [0] [] none .z .z) q m (kC.eq_1 _ _ _) h))
instance:iQ 208 (∀n,Do (kC n)):=⟨Cy⟩
def BA (f:aD->cB->Option (Bool × aD)):Prop:=∀a0 a1 r,f a0 a1=some r->∀(q:Pa) (m:M) (vs:List V) (P0:Pa),vs.map V.weak1=[.ptr P0 0,.ls a1]/\m.blk P0=some ((aD.C a0))/\m.gl 3=.eptr [(cA cS cL)] 0 0->SC prog 131 vs q m (λv Y=>v=.lb r.1/\Y=(m.set P0 ((aD.C r.2))))
theorem pE (n:Nat):BA (bU n):=λa0 a1 r h q m vs P0 ⟨hv,hmP0,_⟩=>SC.wva hv (SC.ac hmP0 λ_ _ _=>cH func131 call131 ntmps131 results131 rfl (wk .z q m (bU.eq_1 _ _ _) h))
instance:iQ 131 (∀n,BA (bU n)):=⟨pE⟩
def BE (f:aD->cB->Option aD):Prop:=∀a0 a1 r,f a0 a1=some r->∀(q:Pa) (m:M) (vs:List V) (P0:Pa),vs.map V.weak1=[.ptr P0 0,.ls a1]/\m.blk P0=some ((aD.C a0))/\m.gl 3=.eptr [(cA cS cL)] 0 0->SC prog 132 vs q m (λv Y=>v=.tup []/\Y=(m.set P0 ((aD.C r))))
theorem pH (n:Nat):BE (bQ n):=λa0 a1 r h q m vs P0 ⟨hv,hmP0,_⟩=>SC.wva hv (SC.ac hmP0 λ_ _ _=>cH func132 call132 ntmps132 results132 rfl (wk .z q m (bQ.eq_1 _ _ _) h))
instance:iQ 132 (∀n,BE (bQ n)):=⟨pH⟩
def BF (f:aD->Option (cB × aD)):Prop:=∀a0 r,f a0=some r->∀(q:Pa) (m:M) (vs:List V) (P0:Pa),vs.map V.weak1=[.ptr P0 0]/\m.blk P0=some ((aD.C a0))/\m.gl 3=.eptr [(cA cS cL)] 0 0->SC prog 133 vs q m (λv Y=>v=.ls r.1/\Y=(m.set P0 ((aD.C r.2))))
theorem HX (n:Nat):BF (eW n):=λa0 r h q m vs P0 ⟨hv,hmP0,_⟩=>SC.wva hv (SC.ac hmP0 λ_ _ _=>cH func133 call133 ntmps133 results133 rfl (wk (.j 2 2 20 [.v 20 Bool λy=>.lb y] [0,3] [0,3] [] none .z .z) q m (eW.eq_1 _ _) h))
instance:iQ 133 (∀n,BF (eW n)):=⟨HX⟩
def An (f:aD->Option (Int × aD)):Prop:=∀a0 r,f a0=some r->∀(q:Pa) (m:M) (vs:List V) (P0:Pa),vs.map V.weak1=[.ptr P0 0]/\m.blk P0=some ((aD.C a0))->SC prog 262 vs q m (λv Y=>v=.lw r.1/\Y=(m.set P0 ((aD.C r.2))))
theorem FU:An (lD):=λa0 r h q m vs P0 ⟨hv,hmP0⟩=>SC.wva hv (SC.ac hmP0 λ_ _ _=>cH func262 call262 ntmps262 results262 rfl (wk (.j 2 2 15 [.v 15 Bool λy=>.lb y] [0,3] [0,3] [] none .z .z) q m (lD.eq_1 _) h))
instance:iQ 262 (An lD):=⟨FU⟩
def BB (f:aD->Option (Int × aD)):Prop:=∀a0 r,f a0=some r->∀(q:Pa) (m:M) (vs:List V) (P0:Pa),vs.map V.weak1=[.ptr P0 0]/\m.blk P0=some ((aD.C a0))/\m.gl 3=.eptr [(cA cS cL)] 0 0->SC prog 210 vs q m (λv Y=>v=.lw r.1/\Y=(m.set P0 ((aD.C r.2))))
theorem HS (n:Nat):BB (nA n):=λa0 r h q m vs P0 ⟨hv,hmP0,_⟩=>SC.wva hv (SC.ac hmP0 λ_ _ _=>cH func210 call210 ntmps210 results210 rfl (wk .z q m (nA.eq_1 _ _) h))
instance:iQ 210 (∀n,BB (nA n)):=⟨HS⟩
def AN (f:aD->Option (aC × aD)):Prop:=∀a0 r,f a0=some r->∀(q:Pa) (m:M) (vs:List V) (P0:Pa),vs.map V.weak1=[.ptr P0 0]/\m.blk P0=some ((aD.C a0))/\m.gl 3=.eptr [(cA cS cL)] 0 0->SC prog 135 vs q m (λv Y=>v=.agg ((aC.C r.1))/\Y=(m.set P0 ((aD.C r.2))))
instance:Ud lN 3:=⟨zc⟩
@[go_sem low] theorem PA {n:Nat}:List.drop n [V.lit (.string (bs ([112,117,98]:cB))),V.lit (.string (bs ([117,51,50]:cB))),V.lit (.string (bs ([117,54,52]:cB)))]=PY cS lN[n]? ++ cA cS (lN.drop (n+1)):=Pj (f:=cS) (l:=lN)
theorem GK (n:Nat):AN (oN n):=λa0 r h q m vs P0 ⟨hv,hmP0,_⟩=>SC.wva hv (SC.ac hmP0 λ_ _ _=>cH func135 call135 ntmps135 results135 rfl (wk (.l [.v 15 Int λy=>.li y,.b 0 aD λy=>(aD.C y),.b 2 aC λy=>[.li y.bJ,.li y.gI,.ls y.dM,.lw y.pX,.list .self (y.aN.map aC.C)],.b 3 aC λy=>[.li y.bJ,.li y.gI,.ls y.dM,.lw y.pX,.list .self (y.aN.map aC.C)]] [0,2,3,14] [] [] none .z .z) q m (oN.eq_1 _ _) h))
instance:iQ 135 (∀n,AN (oN n)):=⟨GK⟩
def xB (f:aD->Option ((List aC) × aD)):Prop:=∀a0 r,f a0=some r->∀(q:Pa) (m:M) (vs:List V) (P0:Pa),vs.map V.weak1=[.ptr P0 0,.fn (.func 135) [.ptr P0 0] []]/\m.blk P0=some ((aD.C a0))/\m.gl 3=.eptr [(cA cS cL)] 0 0->SC prog 134 vs q m (λv Y=>∃(id:Pa) (j:Nat),q <:+ id/\v=.list (.st (.anon id j)) (r.1.map aC.C)/\Y=(m.set P0 ((aD.C r.2))).tokset id j true)
theorem Cx (n:Nat):xB (gV n):=λa0 r h q m vs P0 ⟨hv,hmP0,_⟩=>SC.wva hv (SC.ac hmP0 λ_ _ _=>SC_vo func134 call134 ntmps134 results134 0 rfl λ_=>wk (.c .z (.j 1 0 8 [.o 5 (List aC) λy=>(y.map aC.C),.b 0 aD λy=>(aD.C y)] [0,1] [] [] none (.s 5 (.l [.o 5 (List aC) λy=>(y.map aC.C),.b 0 aD λy=>(aD.C y)] [0,1] [] [] none .z .z)) .z)) q m (gV.eq_1 _ _) h)
def BH (f:aD->Int->Option aD):Prop:=∀a0 a1 r,f a0 a1=some r->∀(q:Pa) (m:M) (vs:List V) (P0:Pa),vs.map V.weak1=[.ptr P0 0,.li a1]/\m.blk P0=some ((aD.C a0))->SC prog 211 vs q m (λv Y=>v=.tup []/\Y=(m.set P0 ((aD.C r))))
theorem Ia:BH (nC):=λa0 a1 r h q m vs P0 ⟨hv,hmP0⟩=>SC.wva hv (SC.ac hmP0 λ_ _ _=>cH func211 call211 ntmps211 results211 rfl (wk .z q m (nC.eq_1 _ _) h))
instance:iQ 211 (BH nC):=⟨Ia⟩
def BC (f:aD->Int->Option cB):Prop:=∀a0 a1 r,f a0 a1=some r->∀(q:Pa) (m:M) (vs:List V) (P0:Pa),vs.map V.weak1=[.ptr P0 0,.li a1]/\m.blk P0=some ((aD.C a0))/\m.gl 3=.eptr [(cA cS cL)] 0 0/\m.gl 8=.eptr [(cA (cA cS) dH)] 0 0->SC prog 330 vs q m (λv Y=>v=.ls r/\Y=m)
theorem HT (n:Nat):BC (nB n):=by
 rintro a0 a1 r h q m vs P0 ⟨hv,hmP0,hg3,hg8⟩;refine SC.wv hv ?_;refine SC.apart hmP0 λhpP0=>?_
 try simp only [go_sem] at hmP0
 refine wG func330 call330 ntmps330 results330 ?_;unfold nB at h;refine bW ?_;refine aR (aR ?_);obtain ⟨x1,h5,h⟩:=aH h;obtain ⟨f2,f3,f4⟩:=bX h5;have f6:a1<7:=f3;obtain ⟨w7,d8⟩:=RY (f:=(cA cS)) (s:=3) (zaU (f:=(cA cS)) (s:=3) _ ze) f4;have d9:=(zaU (f:=(cA cS)) (s:=3) _ ze) _ (GB f4);have d10:=List.take_left' (l₂:=w7) d9;have d11:(3<=(cA cS x1).length+w7.length)=True:=eq_true zb;refine dL λ_ z=>?_;simp only [go_sem,seval,f2,f6,d10,d11,d8,hg8];apply z;refine dY ?_;obtain ⟨y14,j14,h⟩:=aH h;refine zR (λc X Y=>∃v13,mN n x1 a0 c v13=some y14/\X 0=.ptr P0 0/\X 9=.agg ((cA cS x1))/\X 10=.li v13/\Y.blk P0=some ((aD.C a0))/\Y.gl=m.gl/\m.back q Y=m) n ⟨0,j14,?_⟩ ?_
 ·simp only [go_sem,seval,cN,hmP0]
 rintro i12 c15 E16 m17 ⟨v13,j14,e18⟩ _
 rcases c15 with _ | c15
 ·cases j14
 rw [mN] at j14;refine bW ?_;refine aR (gD j14 (λc19 j14=>?_) (λc19 j14=>?_))
 ·refine dA ?_
  refine aR (dY (aR ?_));obtain ⟨x20,h24,j14⟩:=aH j14;obtain ⟨f21,f22,f23⟩:=bX h24;have f25:=(xW.1 f23).1;have f26:v13<3:=by have:=cA_one d9;omega
  obtain ⟨w27,d28⟩:=RY (f:=cS) (s:=1) (λ_ _=>rfl) f23;simp only [go_sem] at d28;refine oB ?_;refine aR ?_;obtain ⟨y29,j29,j14⟩:=aH j14;refine Bq 10 (λX Y=>X 0=.ptr P0 0/\X 6=.ls x20/\X 9=.agg ((cA cS x1))/\X 10=.li v13/\X 19=.lb y29/\Y.blk P0=some ((aD.C a0))/\Y.gl=m.gl/\m.back q Y=m) ?_ ?_
  ·rcases AZ j29 with ⟨c30,j29⟩ | ⟨c30,j29⟩
   ·obtain ⟨x31,h32,j29⟩:=aH j29;refine dL λ_ z=>?_;simp only [go_sem,seval,c30,e18];refine SC.bA (Cy n a0 x20 _ h32 _ _ _ P0) ?_;simp only [go_sem,seval];apply z;cases j29;exact jD
   ·refine oB ?_;cases j29;exact jD
  ·intro E33 m34 e35 _;refine gD j14 (λc36 j14=>?_) (λc36 j14=>?_)
   ·refine bW ?_;refine dI ?_
    try simp only [eN,nE]
    cases j14;simp only [Sum.elim_inr] at h;cases h;exact jS
   ·refine dA ?_
    try simp only [aV,cR]
    refine oB ?_;refine ⟨c15,Rh _,(i64.wrap (v13+1)),j14,?_⟩;simp only [go_sem,seval,e35]
 ·refine lM ?_
  try simp only [eH,dN,↓reduceIte,aV]
  cases j14;simp only [xed] at h;refine bW ?_;refine dI ?_;cases h;exact jS
instance:iQ 330 (∀n,BC (nB n)):=⟨HT⟩
def lI (f:aD->Int->Option ((List aC) × aD)):Prop:=∀a0 a1 r,f a0 a1=some r->∀(q:Pa) (m:M) (vs:List V) (P0:Pa) (P1:Pa) (P2:Pa),vs.map V.weak1=[.ptr P0 0,.fn (.func 344) [] [.ptr P1 0,.ptr P2 0]]/\m.blk P0=some ((aD.C a0))/\m.blk P1=some ([.ptr P0 0])/\m.blk P2=some ([.li a1])/\(P0=P1)=False/\(P0=P2)=False/\(P1=P0)=False/\(P1=P2)=False/\(P2=P0)=False/\(P2=P1)=False/\m.gl 3=.eptr [(cA cS cL)] 0 0/\m.gl 8=.eptr [(cA (cA cS) dH)] 0 0->SC prog 134 vs q m (λv Y=>v=.list .none (r.1.map aC.C)/\Y=(m.set P0 ((aD.C r.2))))
def jT (f:aD->Int->Option (aC × aD)):Prop:=∀a0 a1 r,f a0 a1=some r->∀(q:Pa) (m:M) (vs:List V) (P0:Pa),vs.map V.weak1=[.ptr P0 0,.li a1]/\m.blk P0=some ((aD.C a0))/\m.gl 3=.eptr [(cA cS cL)] 0 0/\m.gl 8=.eptr [(cA (cA cS) dH)] 0 0->SC prog 264 vs q m (λv Y=>v=.agg ((aC.C r.1))/\Y=(m.set P0 ((aD.C r.2))))
def mO (f:aD->Int->Int->Option (aC × aD)):Prop:=∀a0 a1 a2 r,f a0 a1 a2=some r->∀(q:Pa) (m:M) (vs:List V) (P0:Pa),vs.map V.weak1=[.ptr P0 0,.li a1,.li a2]/\m.blk P0=some ((aD.C a0))/\m.gl 3=.eptr [(cA cS cL)] 0 0/\m.gl 8=.eptr [(cA (cA cS) dH)] 0 0->SC prog 305 vs q m (λv Y=>v=.agg ((aC.C r.1))/\Y=(m.set P0 ((aD.C r.2))))
def kU (f:aD->Int->Option (aC × aD)):Prop:=∀a0 a1 r,f a0 a1=some r->∀(q:Pa) (m:M) (vs:List V) (P0:Pa),vs.map V.weak1=[.ptr P0 0,.li a1]/\m.blk P0=some ((aD.C a0))/\m.gl 3=.eptr [(cA cS cL)] 0 0/\m.gl 8=.eptr [(cA (cA cS) dH)] 0 0->SC prog 329 vs q m (λv Y=>v=.agg ((aC.C r.1))/\Y=(m.set P0 ((aD.C r.2))))
def uE (f:aD->Int->Option (aC × aD)):Prop:=∀a0 a1 r,f a0 a1=some r->∀(q:Pa) (m:M) (vs:List V) (P0:Pa) (P1:Pa) (P2:Pa),vs.map V.weak1=[.ptr P1 0,.ptr P2 0]/\m.blk P0=some ((aD.C a0))/\m.blk P1=some ([.ptr P0 0])/\m.blk P2=some ([.li a1])/\(P0=P1)=False/\(P0=P2)=False/\(P1=P0)=False/\(P1=P2)=False/\(P2=P0)=False/\(P2=P1)=False/\m.gl 3=.eptr [(cA cS cL)] 0 0/\m.gl 8=.eptr [(cA (cA cS) dH)] 0 0->SC prog 344 vs q m (λv Y=>v=.agg ((aC.C r.1))/\Y=(m.set P0 ((aD.C r.2))))
theorem zD {fT} (CK:uE fT) (n:Nat):lI (jI fT n):=by
 rintro a0 a1 r h q m vs P0 P1 P2 ⟨hv,hmP0,hmP1,hmP2,hn0_1,hn0_2,hn1_0,hn1_2,hn2_0,hn2_1,hg3,hg8⟩;refine SC.wv hv ?_;refine SC.apart hmP0 λhpP0=>?_;refine SC.apart hmP1 λhpP1=>?_;refine SC.apart hmP2 λhpP2=>?_;have l0:=Jh hmP0
 try simp only [go_sem] at hmP0 l0
 skip
 try simp only [go_sem,seval] at hmP2
 refine wG func134 call134 ntmps134 results134 ?_;unfold jI at h;refine bW ?_;refine bW ?_;refine aR ?_;obtain ⟨x1,h2,h⟩:=aH h;refine dL λ_ z=>?_;simp only [go_sem,seval];refine SC.bA (pH n a0 ([40]:cB) _ h2 _ _ _ P0) ?_;simp only [go_sem,seval];apply z;refine aR (aR ?_);obtain ⟨x3,h4,h⟩:=aH h;refine dL λ_ z=>?_;simp only [go_sem,seval];refine SC.bA (pE n x1 ([41]:cB) _ h4 _ _ _ P0) ?_;simp only [go_sem,seval];apply z;refine gD h (λc5 h=>?_) (λc5 h=>?_)
 ·refine bW ?_;refine dI ?_
  try simp only [eN]
  cases h;exact jS
 ·refine dA ?_
  refine aR ?_;obtain ⟨y6,j6,h⟩:=aH h;refine Bq 8 (λX Y=>∃(oy6_5:Pa) (jy6_5:Nat),X 0=.ptr P0 0/\X 5=.list (.st (.anon oy6_5 jy6_5)) (y6.1.map aC.C)/\Y.tok oy6_5 jy6_5=true/\q <:+ oy6_5/\Y.blk P0=some ((aD.C y6.2))/\Y.blk P1=some ([.ptr P0 0])/\Y.blk P2=some ([.li a1])/\Y.gl=m.gl/\m.back q Y=(m.set P0 ((aD.C y6.2)))) ?_ ?_
  ·refine dY ?_;obtain ⟨y10,j10,j6⟩:=aH j6;refine EK 5 ([].map aC.C) rfl (by simp only [go_sem,seval,c5]) ?_;refine zR (λc X Y=>∃v8 v9 o_v8 j_v8,gU fT n a1 c v8 v9=some y10/\X 0=.ptr P0 0/\X 1=.fn (.func 344) [] [.ptr P1 0,.ptr P2 0]/\X 5=.list (.st (.anon o_v8 j_v8)) (v8.map aC.C)/\Y.tok o_v8 j_v8=true/\q <:+ o_v8/\Y.blk P0=some ((aD.C v9))/\Y.blk P1=some ([.ptr P0 0])/\Y.blk P2=some ([.li a1])/\Y.gl=m.gl/\m.back q Y=(m.set P0 ((aD.C v9)))) n ⟨[],x3.2,(6::q),0,j10,?_⟩ ?_
   ·simp only [go_sem,seval,cG,cN,gP hpP0,hn1_0,hn2_0,c5,hmP1,hmP2]
   rintro i7 c11 E12 m13 ⟨v8,v9,o_v8,j_v8,j10,e14⟩ _
   rcases c11 with _ | c11
   ·cases j10
   rw [gU] at j10;refine aR (bW ?_);refine gD j10 (λc15 j10=>?_) (λc15 j10=>?_)
   ·refine dA ?_
    refine dY (aR ?_);obtain ⟨x16,h17,j10⟩:=aH j10;obtain ⟨f18,j10⟩:=cQ j10;have f19:v8.length+1<=1073741824:=by first | omega | (simp only [oY,qB,sY] at f18 ⊢;omega)
    have f20:v8.length<=1073741823:=by first | omega | (simp only [oY,qB,sY] at f18 ⊢;omega)
    refine dL λ_ z=>?_;simp only [go_sem,seval,c15,e14];refine SC.by_ (CK v9 a1 _ h17 _ _ _ P0 P1 P2 (by simp only [go_sem,hn0_1,hn0_2,hn1_0,hn1_2,hn2_0,hn2_1,e14,hg3,hg8])) ?_;simp only [go_sem,seval,f19,e14];apply z;refine aR ?_;obtain ⟨x21,h22,j10⟩:=aH j10;refine dL λ_ z=>?_;simp only [go_sem,seval,e14];refine SC.bA (pE n x16.2 ([44]:cB) _ h22 _ _ _ P0) ?_;simp only [go_sem,seval];apply z;refine gD j10 (λc23 j10=>?_) (λc23 j10=>?_)
    ·refine lM ?_
     try simp only [seval,eH,dN,aV]
     cases j10;cases j6;refine ⟨zc,(9::i7::7::q),0,?_⟩;simp only [go_sem,seval,cG,gP hpP0,hn1_0,hn2_0,c23,e14]
    ·refine dA ?_
     try simp only [aV,cR]
     refine ⟨c11,Rh _,(v8++[x16.1]),x21.2,(9::i7::7::q),0,j10,?_⟩;simp only [go_sem,seval,cG,gP hpP0,hn1_0,hn2_0,c23,e14]
   ·refine lM ?_
    try simp only [eH,dN,↓reduceIte,aV]
    cases j10;cases j6;refine ⟨zc,o_v8,j_v8,?_⟩;simp only [go_sem,seval,c15,e14]
  ·rintro E24 m25 ⟨oy6_5,jy6_5,e26⟩ _;refine aR ?_;obtain ⟨x27,h28,h⟩:=aH h;refine dL λ_ z=>?_;simp only [go_sem,seval,e26];refine SC.bA (pH n y6.2 ([41]:cB) _ h28 _ _ _ P0) ?_;simp only [go_sem,seval];apply z;refine bW ?_;refine dI ?_;cases h;exact jS
theorem FW {dD} (uT:mO dD) (n:Nat):jT (qN dD n):=haveI:iQ 305 (mO dD):=⟨uT⟩;λa0 a1 r h q m vs P0 ⟨hv,hmP0,_,_⟩=>SC.wva hv (SC.ac hmP0 λ_ _ _=>cH func264 call264 ntmps264 results264 rfl (wk .z q m (qN.eq_1 _ _ _ _) h))
theorem ER {dC} (tS:kU dC) {dD} (uT:mO dD) (n:Nat):mO (pI dC dD n):=haveI:iQ 329 (kU dC):=⟨tS⟩;haveI:iQ 305 (mO dD):=⟨uT⟩;λa0 a1 a2 r h q m vs P0 ⟨hv,hmP0,_,_⟩=>SC.wva hv (SC.ac hmP0 λ_ _ _=>cH func305 call305 ntmps305 results305 rfl (wk (.c .z (.l [.v 8 cB λy=>.ls y,.b 0 aD λy=>(aD.C y),.b 7 aC λy=>(aC.C y)] [0,1,2,6,7] [6] [] none .z .z)) q m (pI.eq_1 _ _ _ _ _ _) h))
instance:Ud jB 2:=⟨zc⟩
@[go_sem low] theorem NQ {n:Nat}:List.drop n [V.lit (.string (bs ([126]:cB))),V.lit (.string (bs ([45]:cB)))]=PY cS jB[n]? ++ cA cS (jB.drop (n+1)):=Pj (f:=cS) (l:=jB)
theorem Du {eO} (vI:jT eO) {dC} (tS:kU dC) {iR} (zN:lI iR) (n:Nat):kU (nT eO dC iR n):=haveI:iQ 264 (jT eO):=⟨vI⟩;haveI:iQ 329 (kU dC):=⟨tS⟩;haveI:iQ 134 (lI iR):=⟨zN⟩;λa0 a1 r h q m vs P0 ⟨hv,hmP0,_,_⟩=>SC.wva hv (SC.ac hmP0 λ_ _ _=>cH func329 call329 ntmps329 results329 rfl (wk (.c .z (.l [.v 24 Int λy=>.li y,.b 0 aD λy=>(aD.C y),.b 6 aC λy=>[.li y.bJ,.li y.gI,.ls y.dM,.lw y.pX,.list .self (y.aN.map aC.C)],.b 4 aC λy=>[.li y.bJ,.li y.gI,.ls y.dM,.lw y.pX,.list .self (y.aN.map aC.C)]] [0,2,3,4,6,23] [2,3] [] none .z (.j 2 14 26 [.v 51 Bool λy=>.lb y] [0,2,3,4,6] [0,6,2,3,4] [] none .z (.c .z (.j 1 2 47 [.b 0 aD λy=>(aD.C y),.b 6 aC λy=>(aC.C y)] [0,4,6] [4] [(6,4)] none .z .z))))) q m (nT.eq_1 _ _ _ _ _ _) h))
theorem Cw {eO} (vI:jT eO) (n:Nat):uE (lX eO n):=haveI:iQ 264 (jT eO):=⟨vI⟩;λa0 a1 r h q m vs P0 P1 P2 ⟨hv,hmP0,hmP1,hmP2,_,_,_,_,_,_,_,_⟩=>SC.wva hv (SC.ac hmP0 λ_ _ _=>SC.ac hmP1 λ_ _ _=>SC.ac hmP2 λ_ _ _=>cH func344 call344 ntmps344 results344 rfl (wk .z q m (lX.eq_1 _ _ _ _) h))
theorem sM:∀n,lI (BP n)/\jT (fQ n)/\mO (Jm n)/\kU (HU n)/\uE (FT n)
 | 0=>⟨λ_ _ _ h=>cK h,λ_ _ _ h=>cK h,λ_ _ _ _ h=>cK h,λ_ _ _ h=>cK h,λ_ _ _ h=>cK h⟩
 | n+1=>
   have ih:=sM n
   ⟨zD ih.2.2.2.2 n,FW ih.2.2.1 n,ER ih.2.2.2.1 ih.2.2.1 n,Du ih.2.1 ih.2.2.2.1 ih.1 n,Cw ih.2.1 n⟩
theorem HZ (n:Nat):jT (fQ n):=(sM n).2.1
instance:iQ 264 (∀n,jT (fQ n)):=⟨HZ⟩
def AO (f:aD->aC->Int->Option (aC × aD)):Prop:=∀a0 a1 a2 r,f a0 a1 a2=some r->∀(q:Pa) (m:M) (vs:List V) (P0:Pa),vs.map V.weak1=[.ptr P0 0,.agg ((aC.C a1)),.li a2]/\m.blk P0=some ((aD.C a0))/\m.gl 3=.eptr [(cA cS cL)] 0 0/\m.gl 8=.eptr [(cA (cA cS) dH)] 0 0->SC prog 263 vs q m (λv Y=>v=.agg ((aC.C r.1))/\Y=(m.set P0 ((aD.C r.2))))
theorem GL (n:Nat):AO (lY n):=λa0 a1 a2 r h q m vs P0 ⟨hv,hmP0,_,_⟩=>SC.wva hv (SC.ac hmP0 λ_ _ _=>cH func263 call263 ntmps263 results263 rfl (wk .z q m (lY.eq_1 _ _ _ _) h))
instance:iQ 263 (∀n,AO (lY n)):=⟨GL⟩
def FQ (f:aD->Int->Option (aC × aD)):Prop:=∀a0 a1 r,f a0 a1=some r->∀(q:Pa) (m:M) (vs:List V) (P0:Pa) (P1:Pa) (P2:Pa),vs.map V.weak1=[.ptr P1 0,.ptr P2 0]/\m.blk P0=some ((aD.C a0))/\m.blk P1=some ([.ptr P0 0])/\m.blk P2=some ([.li a1])/\(P0=P1)=False/\(P0=P2)=False/\(P1=P0)=False/\(P1=P2)=False/\(P2=P0)=False/\(P2=P1)=False/\m.gl 3=.eptr [(cA cS cL)] 0 0/\m.gl 8=.eptr [(cA (cA cS) dH)] 0 0->SC prog 306 vs q m (λv Y=>v=.agg ((aC.C r.1))/\Y=(m.set P0 ((aD.C r.2))))
theorem EQ (n:Nat):FQ (pG n):=λa0 a1 r h q m vs P0 P1 P2 ⟨hv,hmP0,hmP1,hmP2,_,_,_,_,_,_,_,_⟩=>SC.wva hv (SC.ac hmP0 λ_ _ _=>SC.ac hmP1 λ_ _ _=>SC.ac hmP2 λ_ _ _=>cH func306 call306 ntmps306 results306 rfl (wk .z q m (pG.eq_1 _ _ _) h))
def vU (f:aD->Int->Option ((List aC) × aD)):Prop:=∀a0 a1 r,f a0 a1=some r->∀(q:Pa) (m:M) (vs:List V) (P0:Pa) (P1:Pa) (P2:Pa),vs.map V.weak1=[.ptr P0 0,.fn (.func 306) [] [.ptr P1 0,.ptr P2 0]]/\m.blk P0=some ((aD.C a0))/\m.blk P1=some ([.ptr P0 0])/\m.blk P2=some ([.li a1])/\(P0=P1)=False/\(P0=P2)=False/\(P1=P0)=False/\(P1=P2)=False/\(P2=P0)=False/\(P2=P1)=False/\m.gl 3=.eptr [(cA cS cL)] 0 0/\m.gl 8=.eptr [(cA (cA cS) dH)] 0 0->SC prog 134 vs q m (λv Y=>v=.list .none (r.1.map aC.C)/\Y=(m.set P0 ((aD.C r.2))))
theorem Bv (n:Nat):vU (jC n):=by
 rintro a0 a1 r h q m vs P0 P1 P2 ⟨hv,hmP0,hmP1,hmP2,hn0_1,hn0_2,hn1_0,hn1_2,hn2_0,hn2_1,hg3,hg8⟩;refine SC.wv hv ?_;refine SC.apart hmP0 λhpP0=>?_;refine SC.apart hmP1 λhpP1=>?_;refine SC.apart hmP2 λhpP2=>?_;have l0:=Jh hmP0
 try simp only [go_sem] at hmP0 l0
 skip
 try simp only [go_sem,seval] at hmP2
 refine wG func134 call134 ntmps134 results134 ?_;unfold jC at h;refine bW ?_;refine bW ?_;refine aR ?_;obtain ⟨x1,h2,h⟩:=aH h;refine dL λ_ z=>?_;simp only [go_sem,seval];refine SC.bA (pH n a0 ([40]:cB) _ h2 _ _ _ P0) ?_;simp only [go_sem,seval];apply z;refine aR (aR ?_);obtain ⟨x3,h4,h⟩:=aH h;refine dL λ_ z=>?_;simp only [go_sem,seval];refine SC.bA (pE n x1 ([41]:cB) _ h4 _ _ _ P0) ?_;simp only [go_sem,seval];apply z;refine gD h (λc5 h=>?_) (λc5 h=>?_)
 ·refine bW ?_;refine dI ?_
  try simp only [eN]
  cases h;exact jS
 ·refine dA ?_
  refine aR ?_;obtain ⟨y6,j6,h⟩:=aH h;refine Bq 8 (λX Y=>∃(oy6_5:Pa) (jy6_5:Nat),X 0=.ptr P0 0/\X 5=.list (.st (.anon oy6_5 jy6_5)) (y6.1.map aC.C)/\Y.tok oy6_5 jy6_5=true/\q <:+ oy6_5/\Y.blk P0=some ((aD.C y6.2))/\Y.blk P1=some ([.ptr P0 0])/\Y.blk P2=some ([.li a1])/\Y.gl=m.gl/\m.back q Y=(m.set P0 ((aD.C y6.2)))) ?_ ?_
  ·refine dY ?_;obtain ⟨y10,j10,j6⟩:=aH j6;refine EK 5 ([].map aC.C) rfl (by simp only [go_sem,seval,c5]) ?_;refine zR (λc X Y=>∃v8 v9 o_v8 j_v8,iF n a1 c v8 v9=some y10/\X 0=.ptr P0 0/\X 1=.fn (.func 306) [] [.ptr P1 0,.ptr P2 0]/\X 5=.list (.st (.anon o_v8 j_v8)) (v8.map aC.C)/\Y.tok o_v8 j_v8=true/\q <:+ o_v8/\Y.blk P0=some ((aD.C v9))/\Y.blk P1=some ([.ptr P0 0])/\Y.blk P2=some ([.li a1])/\Y.gl=m.gl/\m.back q Y=(m.set P0 ((aD.C v9)))) n ⟨[],x3.2,(6::q),0,j10,?_⟩ ?_
   ·simp only [go_sem,seval,cG,cN,gP hpP0,hn1_0,hn2_0,c5,hmP1,hmP2]
   rintro i7 c11 E12 m13 ⟨v8,v9,o_v8,j_v8,j10,e14⟩ _
   rcases c11 with _ | c11
   ·cases j10
   rw [iF] at j10;refine aR (bW ?_);refine gD j10 (λc15 j10=>?_) (λc15 j10=>?_)
   ·refine dA ?_
    refine dY (aR ?_);obtain ⟨x16,h17,j10⟩:=aH j10;obtain ⟨f18,j10⟩:=cQ j10;have f19:v8.length+1<=1073741824:=by first | omega | (simp only [oY,qB,sY] at f18 ⊢;omega)
    have f20:v8.length<=1073741823:=by first | omega | (simp only [oY,qB,sY] at f18 ⊢;omega)
    refine dL λ_ z=>?_;simp only [go_sem,seval,c15,e14];refine SC.by_ (EQ n v9 a1 _ h17 _ _ _ P0 P1 P2 (by simp only [go_sem,hn0_1,hn0_2,hn1_0,hn1_2,hn2_0,hn2_1,e14,hg3,hg8])) ?_;simp only [go_sem,seval,f19,e14];apply z;refine aR ?_;obtain ⟨x21,h22,j10⟩:=aH j10;refine dL λ_ z=>?_;simp only [go_sem,seval,e14];refine SC.bA (pE n x16.2 ([44]:cB) _ h22 _ _ _ P0) ?_;simp only [go_sem,seval];apply z;refine gD j10 (λc23 j10=>?_) (λc23 j10=>?_)
    ·refine lM ?_
     try simp only [seval,eH,dN,aV]
     cases j10;cases j6;refine ⟨zc,(9::i7::7::q),0,?_⟩;simp only [go_sem,seval,cG,gP hpP0,hn1_0,hn2_0,c23,e14]
    ·refine dA ?_
     try simp only [aV,cR]
     refine ⟨c11,Rh _,(v8++[x16.1]),x21.2,(9::i7::7::q),0,j10,?_⟩;simp only [go_sem,seval,cG,gP hpP0,hn1_0,hn2_0,c23,e14]
   ·refine lM ?_
    try simp only [eH,dN,↓reduceIte,aV]
    cases j10;cases j6;refine ⟨zc,o_v8,j_v8,?_⟩;simp only [go_sem,seval,c15,e14]
  ·rintro E24 m25 ⟨oy6_5,jy6_5,e26⟩ _;refine aR ?_;obtain ⟨x27,h28,h⟩:=aH h;refine dL λ_ z=>?_;simp only [go_sem,seval,e26];refine SC.bA (pH n y6.2 ([41]:cB) _ h28 _ _ _ P0) ?_;simp only [go_sem,seval];apply z;refine bW ?_;refine dI ?_;cases h;exact jS
def AM (f:aD->aC->Int->Option (aC × aD)):Prop:=∀a0 a1 a2 r,f a0 a1 a2=some r->∀(q:Pa) (m:M) (vs:List V) (P0:Pa),vs.map V.weak1=[.ptr P0 0,.agg ((aC.C a1)),.li a2]/\m.blk P0=some ((aD.C a0))/\m.gl 3=.eptr [(cA cS cL)] 0 0/\m.gl 8=.eptr [(cA (cA cS) dH)] 0 0->SC prog 267 vs q m (λv Y=>v=.agg ((aC.C r.1))/\Y=(m.set P0 ((aD.C r.2))))
theorem GJ (n:Nat):AM (oM n):=λa0 a1 a2 r h q m vs P0 ⟨hv,hmP0,_,_⟩=>SC.wva hv (SC.ac hmP0 λ_ _ _=>haveI:iQ 134 (∀n,vU (jC n)):=⟨Bv⟩;cH func267 call267 ntmps267 results267 rfl (wk (.j 1 0 37 [.b 0 aD λy=>(aD.C y),.b 4 aC λy=>(aC.C y)] [0,3,4,6] [3,6] [(4,4)] none .z .z) q m (oM.eq_1 _ _ _ _) h))
instance:iQ 267 (∀n,AM (oM n)):=⟨GJ⟩
def jJ (f:aD->Int->Option (aC × aD)):Prop:=∀a0 a1 r,f a0 a1=some r->∀(q:Pa) (m:M) (vs:List V) (P0:Pa),vs.map V.weak1=[.ptr P0 0,.li a1]/\m.blk P0=some ((aD.C a0))/\m.gl 3=.eptr [(cA cS cL)] 0 0/\m.gl 8=.eptr [(cA (cA cS) dH)] 0 0->SC prog 136 vs q m (λv Y=>v=.agg ((aC.C r.1))/\Y=(m.set P0 ((aD.C r.2))))
def pF (f:aD->Int->Option (aC × aD)):Prop:=∀a0 a1 r,f a0 a1=some r->∀(q:Pa) (m:M) (vs:List V) (P0:Pa),vs.map V.weak1=[.ptr P0 0,.li a1]/\m.blk P0=some ((aD.C a0))/\m.gl 3=.eptr [(cA cS cL)] 0 0/\m.gl 8=.eptr [(cA (cA cS) dH)] 0 0->SC prog 212 vs q m (λv Y=>v=.agg ((aC.C r.1))/\Y=(m.set P0 ((aD.C r.2))))
def sO (f:aD->aC->Int->Option (aC × aD)):Prop:=∀a0 a1 a2 r,f a0 a1 a2=some r->∀(q:Pa) (m:M) (vs:List V) (P0:Pa),vs.map V.weak1=[.ptr P0 0,.agg ((aC.C a1)),.li a2]/\m.blk P0=some ((aD.C a0))/\m.gl 3=.eptr [(cA cS cL)] 0 0/\m.gl 8=.eptr [(cA (cA cS) dH)] 0 0->SC prog 265 vs q m (λv Y=>v=.agg ((aC.C r.1))/\Y=(m.set P0 ((aD.C r.2))))
def uL (f:aD->aC->Int->Option (aC × aD)):Prop:=∀a0 a1 a2 r,f a0 a1 a2=some r->∀(q:Pa) (m:M) (vs:List V) (P0:Pa),vs.map V.weak1=[.ptr P0 0,.agg ((aC.C a1)),.li a2]/\m.blk P0=some ((aD.C a0))/\m.gl 3=.eptr [(cA cS cL)] 0 0/\m.gl 8=.eptr [(cA (cA cS) dH)] 0 0->SC prog 266 vs q m (λv Y=>v=.agg ((aC.C r.1))/\Y=(m.set P0 ((aD.C r.2))))
theorem ES {fS} (CJ:pF fS) (n:Nat):jJ (pJ fS n):=haveI:iQ 212 (pF fS):=⟨CJ⟩;λa0 a1 r h q m vs P0 ⟨hv,hmP0,_,_⟩=>SC.wva hv (SC.ac hmP0 λ_ _ _=>cH func136 call136 ntmps136 results136 rfl (wk (.l [.b 0 aD λy=>(aD.C y),.b 5 aC λy=>[.li y.bJ,.li y.gI,.ls y.dM,.lw y.pX,.list .self (y.aN.map aC.C)]] [0,1,4,5] [4] [] none (.j 2 4 10 [.v 22 Bool λy=>.lb y] [0,1,4,5] [0,4,5] [] none .z .z) .z) q m (pJ.eq_1 _ _ _ _) h))
theorem Cv {mU} (EC:sO mU) {oK} (Gs:uL oK) (n:Nat):pF (lW mU oK n):=haveI:iQ 265 (sO mU):=⟨EC⟩;haveI:iQ 266 (uL oK):=⟨Gs⟩;λa0 a1 r h q m vs P0 ⟨hv,hmP0,_,_⟩=>SC.wva hv (SC.ac hmP0 λ_ _ _=>cH func212 call212 ntmps212 results212 rfl (wk (.j 11 0 26 [.b 0 aD λy=>(aD.C y),.b 5 aC λy=>[.li y.bJ,.li y.gI,.ls y.dM,.lw y.pX,.list .self (y.aN.map aC.C)]] [0,4,5] [4] [] none .z .z) q m (lW.eq_1 _ _ _ _ _) h))
theorem Ef {eE} (uU:jJ eE) (n:Nat):sO (oO eE n):=haveI:iQ 136 (jJ eE):=⟨uU⟩;λa0 a1 a2 r h q m vs P0 ⟨hv,hmP0,_,_⟩=>SC.wva hv (SC.ac hmP0 λ_ _ _=>cH func265 call265 ntmps265 results265 rfl (wk .z q m (oO.eq_1 _ _ _ _ _) h))
theorem FV {eE} (uU:jJ eE) (n:Nat):uL (qM eE n):=haveI:iQ 136 (jJ eE):=⟨uU⟩;λa0 a1 a2 r h q m vs P0 ⟨hv,hmP0,_,_⟩=>SC.wva hv (SC.ac hmP0 λ_ _ _=>cH func266 call266 ntmps266 results266 rfl (wk .z q m (qM.eq_1 _ _ _ _ _) h))
theorem xS:∀n,jJ (eZ n)/\pF (FP n)/\sO (Iy n)/\uL (Kr n)
 | 0=>⟨λ_ _ _ h=>cK h,λ_ _ _ h=>cK h,λ_ _ _ _ h=>cK h,λ_ _ _ _ h=>cK h⟩
 | n+1=>
   have ih:=xS n
   ⟨ES ih.2.1 n,Cv ih.2.2.1 ih.2.2.2 n,Ef ih.1 n,FV ih.1 n⟩
theorem GM (n:Nat):jJ (eZ n):=(xS n).1
instance:iQ 136 (∀n,jJ (eZ n)):=⟨GM⟩
def yQ (f:aD->Option (aC × aD)):Prop:=∀a0 r,f a0=some r->∀(q:Pa) (m:M) (vs:List V) (P0:Pa),vs.map V.weak1=[.ptr P0 0]/\m.blk P0=some ((aD.C a0))/\m.gl 3=.eptr [(cA cS cL)] 0 0/\m.gl 8=.eptr [(cA (cA cS) dH)] 0 0->SC prog 76 vs q m (λv Y=>v=.agg ((aC.C r.1))/\Y=(m.set P0 ((aD.C r.2))))
theorem Ee (n:Nat):yQ (lO n):=λa0 r h q m vs P0 ⟨hv,hmP0,_,_⟩=>SC.wva hv (SC.ac hmP0 λ_ _ _=>haveI:iQ 134 (∀n,xB (gV n)):=⟨Cx⟩;cH func76 call76 ntmps76 results76 rfl (wk .z q m (lO.eq_1 _ _) h))
instance:iQ 76 (∀n,yQ (lO n)):=⟨Ee⟩
def PX (f:cB->Option (aC × Int × Int)):Prop:=∀a0 r,f a0=some r->∀(q:Pa) (m:M) (vs:List V),vs.map V.weak1=[.list .none (sH a0)]/\m.gl 2=.eptr [(cA cS gL)] 0 0/\m.gl 3=.eptr [(cA cS cL)] 0 0/\m.gl 8=.eptr [(cA (cA cS) dH)] 0 0->SC prog 30 vs q m (λv Y=>v=.tup [.agg ((aC.C r.1)),.li r.2.1,.li r.2.2]/\Y=m)
theorem Oz (n:Nat):PX (Cu n):=λa0 r h q m vs ⟨hv,_,_,_⟩=>SC.wva hv (cH func30 call30 ntmps30 results30 rfl (wk (.c .z (.l [.b 8 aD λy=>(aD.C y),.b 9 aC λy=>[.li y.bJ,.li y.gI,.ls y.dM,.lw y.pX,.list .self (y.aN.map aC.C)]] [2,8,9] [2] [] none (.j 2 6 11 [.v 36 Bool λy=>.lb y] [2,8,9] [2,8,9] [] none .z .z) .z)) q m (Cu.eq_1 _ _) h))
def AY (f:aE->aG->Int->Int->Option aG):Prop:=∀a0 a1 a2 a3 r,f a0 a1 a2 a3=some r->∀(q:Pa) (m:M) (vs:List V) (P0:Pa) (F0 fp0 S0 C0:V),vs.map V.weak1=[.ptr P0 0,.li a2,.li a3]/\m.blk P0=some (sZ F0 fp0 S0 C0 a0 a1)/\fC F0 fp0 S0 C0 m.hp a0->SC prog 85 vs q m (λv Y=>v=.tup []/\Y=(m.set P0 (sZ F0 fp0 S0 C0 a0 r)))
theorem Hc:AY (rZ):=λa0 a1 a2 a3 r h q m vs P0 F0 fp0 S0 C0 ⟨hv,hmP0,t0⟩=>SC.wva hv (SC.ac hmP0 λ_ _ _=>cH func85 call85 ntmps85 results85 rfl (wk .z q m (rZ.eq_1 _ _ _ _) h))
instance:iQ 85 (AY rZ):=⟨Hc⟩
def AU (f:aE->aG->Bool->Int->Int->Option aG):Prop:=∀a0 a1 a2 a3 a4 r,f a0 a1 a2 a3 a4=some r->∀(q:Pa) (m:M) (vs:List V) (P0:Pa) (F0 fp0 S0 C0:V),vs.map V.weak1=[.ptr P0 0,.lb a2,.li a3,.li a4]/\m.blk P0=some (sZ F0 fp0 S0 C0 a0 a1)/\fC F0 fp0 S0 C0 m.hp a0->SC prog 34 vs q m (λv Y=>v=.tup []/\Y=(m.set P0 (sZ F0 fp0 S0 C0 a0 r)))
theorem bN:AU (aS):=λa0 a1 a2 a3 a4 r h q m vs P0 F0 fp0 S0 C0 ⟨hv,hmP0,t0⟩=>SC.wva hv (SC.ac hmP0 λ_ _ _=>cH func34 call34 ntmps34 results34 rfl (wk .z q m (aS.eq_1 _ _ _ _ _) h))
instance:iQ 34 (AU aS):=⟨bN⟩
