import Derived.Test.YtnheknbibdgglaaGreatDoorTH4
import Derived.Test.YtnheknbibdgglaaGreatDoorTAw
namespace Go.Proofs.YtnheknbibdgglaaGreatDoor.Abs
open Go.RowKit Tryz
open IntKind (i64 u32 u64 u8)
set_option linter.all false
set_option maxRecDepth 10000
set_option maxHeartbeats 2000000
open Tryz
instance:JM bC.C 2:=⟨λx=>by rw [bC.C_eq];rfl⟩
instance:JM bO.C 2:=⟨λx=>by rw [bO.C_eq];rfl⟩
instance:QV fO 26:=⟨by decide⟩
instance:QV cK 5:=⟨by decide⟩
instance:QV eF 15:=⟨by decide⟩
def Jl (f:Int->Option Bool):Prop:=∀a0 r,f a0=some r->AQ prog 115 [.lit (.int .u8 a0)] (.lb r)
theorem Nb:Jl (BB):=λa0 r h q m vs hv=>SC.wva hv (cY func115 call115 ntmps115 results115 rfl (wk (.j 2 1 16 [.v 2 Bool λy=>.lb y] [] [] [] none .z .z) q m (BB.eq_1 _) h))
instance:mN 115 (Jl BB):=⟨Nb⟩
def sQ (f:bW->bW->Option Bool):Prop:=∀a0 a1 r,f a0 a1=some r->AQ prog 149 [.ls a0,.ls a1] (.lb r)
theorem xO:sQ (fR):=λa0 a1 r h q m vs hv=>SC.wva hv (cY func149 call149 ntmps149 results149 rfl (wk (.j 2 1 15 [.v 4 Bool λy=>.lb y] [] [] [] none .z .z) q m (fR.eq_1 _ _) h))
instance:mN 149 (sQ fR):=⟨xO⟩
def Bc (f:bW->bW->Option Bool):Prop:=∀a0 a1 r,f a0 a1=some r->AQ prog 116 [.ls a0,.ls a1] (.lb r)
theorem Gh:Bc (nR):=λa0 a1 r h q m vs hv=>SC.wva hv (cY func116 call116 ntmps116 results116 rfl (wk .z q m (nR.eq_1 _ _) h))
instance:mN 116 (Bc nR):=⟨Gh⟩
def rZ (f:bW->Int->Option Int):Prop:=∀a0 a1 r,f a0 a1=some r->AQ prog 173 [.ls a0,.lit (.int .u8 a1)] (.li r)
theorem vW:rZ oK:=by
 intro a0 a1 r h q m vs hv;refine SC.weak ?_;rw [hv];cases h;intro c xs w h1 h2 h3;obtain ⟨x,xs,rfl,k1,k2⟩:=h2.uncons;obtain ⟨y,rfl,k3⟩:=k2.inv_one;obtain rfl:=k1.inv_lit;obtain rfl:=k3.inv_lit;refine .inr ⟨.int .i64 (Lib.indexByte a0 a1.toNat.toUInt8),w,?_,_,c,_,m,rfl,⟨rfl,rfl⟩,h1,.refl q c m w,.lit .nil⟩;rw [run_callFunc_extern (fn:=f173) (e:=Extern.BytealgIndexByte.indexByte) func173 (by kernel_rfl) (by kernel_rfl) (by kernel_rfl) (by rfl)];have:=Lib.run_indexByteString (P:=prog) (bs a0) a1 w;rw [this];rfl
instance:mN 173 (rZ oK):=⟨vW⟩
def sP (f:bW->Int->Option Int):Prop:=∀a0 a1 r,f a0 a1=some r->AQ prog 150 [.ls a0,.lit (.int .u8 a1)] (.li r)
theorem xN:sP (lW):=λa0 a1 r h q m vs hv=>SC.wva hv (cY func150 call150 ntmps150 results150 rfl (wk .z q m (lW.eq_1 _ _) h))
instance:mN 150 (sP lW):=⟨xN⟩
def Bb (f:bW->Int->Option Int):Prop:=∀a0 a1 r,f a0 a1=some r->AQ prog 117 [.ls a0,.lit (.int .u8 a1)] (.li r)
theorem Gg:Bb (nQ):=λa0 a1 r h q m vs hv=>SC.wva hv (cY func117 call117 ntmps117 results117 rfl (wk .z q m (nQ.eq_1 _ _) h))
instance:mN 117 (Bb nQ):=⟨Gg⟩
def KK (f:bW->Int->Option Int):Prop:=∀a0 a1 r,f a0 a1=some r->AQ prog 77 [.ls a0,.li a1] (.li r)
theorem OJ (n:Nat):KK (Cc n):=λa0 a1 r h q m vs hv=>SC.wva hv (cY func77 call77 ntmps77 results77 rfl (wk (.l [.v 1 Int λy=>.li y] [0] [] [] none .z .z) q m (Cc.eq_1 _ _ _) h))
instance:mN 77 (∀n,KK (Cc n)):=⟨OJ⟩
def Ik (f:Int->Option Bool):Prop:=∀a0 r,f a0=some r->AQ prog 119 [.lit (.int .u8 a0)] (.lb r)
theorem LN:Ik (wL):=λa0 r h q m vs hv=>SC.wva hv (cY func119 call119 ntmps119 results119 rfl (wk (.j 2 1 12 [.v 2 Bool λy=>.lb y] [] [] [] none .z .z) q m (wL.eq_1 _) h))
instance:mN 119 (Ik wL):=⟨LN⟩
def Jm (f:Int->Option Bool):Prop:=∀a0 r,f a0=some r->AQ prog 120 [.lit (.int .u8 a0)] (.lb r)
theorem Nc:Jm (Ac):=λa0 r h q m vs hv=>SC.wva hv (cY func120 call120 ntmps120 results120 rfl (wk (.j 2 1 8 [.v 2 Bool λy=>.lb y] [] [] [] none .z .z) q m (Ac.eq_1 _) h))
instance:mN 120 (Jm Ac):=⟨Nc⟩
def KJ (f:bW->Option bW):Prop:=∀a0 r,f a0=some r->AQ prog 118 [.ls a0] (.ls r)
theorem OI (n:Nat):KJ (ED n):=λa0 r h q m vs hv=>SC.wva hv (cY func118 call118 ntmps118 results118 rfl (wk (.l [.v 6 Int λy=>.li y] [0,5] [] [] none (.c (.j 2 4 15 [.v 20 Bool λy=>.lb y] [0,3,5,6] [] [] none .z .z) .z) .z) q m (ED.eq_1 _ _) h))
instance:mN 118 (∀n,KJ (ED n)):=⟨OI⟩
def sR (f:bW->bW->Option (bW × Bool)):Prop:=∀a0 a1 r,f a0 a1=some r->AQ prog 174 [.ls a0,.ls a1] (.tup [.ls r.1,.lb r.2])
theorem xP:sR (jN):=λa0 a1 r h q m vs hv=>SC.wva hv (cY func174 call174 ntmps174 results174 rfl (wk .z q m (jN.eq_1 _ _) h))
instance:mN 174 (sR jN):=⟨xP⟩
def Bd (f:bW->bW->Option (bW × Bool)):Prop:=∀a0 a1 r,f a0 a1=some r->AQ prog 151 [.ls a0,.ls a1] (.tup [.ls r.1,.lb r.2])
theorem Gi:Bd (qG):=λa0 a1 r h q m vs hv=>SC.wva hv (cY func151 call151 ntmps151 results151 rfl (wk .z q m (qG.eq_1 _ _) h))
instance:mN 151 (Bd qG):=⟨Gi⟩
def Jk (f:bW->Option (Int × Bool)):Prop:=∀a0 r,f a0=some r->AQ prog 121 [.ls a0] (.tup [.lw r.1,.lb r.2])
theorem Na (n:Nat):Jk (BA n):=λa0 r h q m vs hv=>SC.wva hv (cY func121 call121 ntmps121 results121 rfl (wk (.c (.l [.v 7 Int λy=>.li y,.v 19 Int λy=>.li y] [0,4,18] [] [] none (.c (.j 2 11 22 [.v 38 Bool λy=>.lb y] [0,4,7,18,19] [] [] none .z .z) .z) .z) (.l [.v 7 Int λy=>.li y,.v 19 Int λy=>.li y] [0,4,18] [] [] none (.c (.j 2 11 22 [.v 38 Bool λy=>.lb y] [0,4,7,18,19] [] [] none .z .z) .z) .z)) q m (BA.eq_1 _ _) h))
instance:mN 121 (∀n,Jk (BA n)):=⟨Na⟩
def KL (f:bW->Option bW):Prop:=∀a0 r,f a0=some r->∀(q:Pa) (m:M) (vs:List V),vs.map V.weak1=[.ls a0]/\m.gl 1=.eptr [(cA cS fO)] 0 0->SC prog 122 vs q m (λv Y=>v=.ls r/\Y=m)
theorem OK (n:Nat):KL (EE n):=λa0 r h q m vs ⟨hv,_⟩=>SC.wva hv (cY func122 call122 ntmps122 results122 rfl (wk (.l [.v 6 Int λy=>.li y] [0,5] [] [] none .z .z) q m (EE.eq_1 _ _) h))
instance:mN 122 (∀n,KL (EE n)):=⟨OK⟩
def KM (f:bW->Int->Option (dK × Int)):Prop:=∀a0 a1 r,f a0 a1=some r->∀(q:Pa) (m:M) (vs:List V),vs.map V.weak1=[.ls a0,.li a1]/\m.gl 1=.eptr [(cA cS fO)] 0 0->SC prog 78 vs q m (λv Y=>v=.tup [.agg ((dK.C r.1)),.li r.2]/\Y=m)
theorem OM (n:Nat):KM (EF n):=λa0 a1 r h q m vs ⟨hv,_⟩=>SC.wva hv (cY func78 call78 ntmps78 results78 rfl (wk .z q m (EF.eq_1 _ _ _) h))
instance:mN 78 (∀n,KM (EF n)):=⟨OM⟩
def Ij (f:bW->Option ((List dK) × Int × Int)):Prop:=∀a0 r,f a0=some r->∀(q:Pa) (m:M) (vs:List V),vs.map V.weak1=[.list .none (qF a0)]/\m.gl 1=.eptr [(cA cS fO)] 0 0->SC prog 49 vs q m (λv Y=>v=.tup [.list .none (r.1.map dK.C),.li r.2.1,.li r.2.2]/\Y=m)
theorem LM (n:Nat):Ij (Ab n):=λa0 r h q m vs ⟨hv,_⟩=>SC.wva hv (cY func49 call49 ntmps49 results49 rfl (wk (.c .z (.s 6 (.l [.o 6 (List dK) λy=>(y.map dK.C),.v 7 Int λy=>.li y] [5] [] [] none .z .z))) q m (Ab.eq_1 _ _) h))
instance:mN 49 (∀n,Ij (Ab n)):=⟨LM⟩
def xV (f:aC->Option dK):Prop:=∀a0 r,f a0=some r->∀(q:Pa) (m:M) (vs:List V) (P0:Pa),vs.map V.weak1=[.ptr P0 0]/\m.blk P0=some ((aC.C a0))->SC prog 51 vs q m (λv Y=>v=.agg ((dK.C r))/\Y=m)
theorem Eh:xV (dO):=λa0 r h q m vs P0 ⟨hv,hmP0⟩=>SC.wva hv (SC.ac hmP0 λ_ _ _=>cY func51 call51 ntmps51 results51 rfl (wk .z q m (dO.eq_1 _) h))
instance:mN 51 (xV dO):=⟨Eh⟩
def zO (f:aC->Int->Option aC):Prop:=∀a0 a1 r,f a0 a1=some r->∀(q:Pa) (m:M) (vs:List V) (P0:Pa),vs.map V.weak1=[.ptr P0 0,.li a1]/\m.blk P0=some ((aC.C a0))->SC prog 79 vs q m (λv Y=>v=.tup []/\Y=(m.set P0 ((aC.C r))))
theorem Fm:zO (iO):=λa0 a1 r h q m vs P0 ⟨hv,hmP0⟩=>SC.wva hv (SC.ac hmP0 λ_ _ _=>cY func79 call79 ntmps79 results79 rfl (wk .z q m (iO.eq_1 _ _) h))
instance:mN 79 (zO iO):=⟨Fm⟩
def zL (f:aC->Int->Option (aB × aC)):Prop:=∀a0 a1 r,f a0 a1=some r->∀(q:Pa) (m:M) (vs:List V) (P0:Pa),vs.map V.weak1=[.ptr P0 0,.li a1]/\m.blk P0=some ((aC.C a0))->SC prog 50 vs q m (λv Y=>∃(id:Pa) (j:Nat),q <:+ id/\v=.agg ([.li r.1.bK,.li r.1.fM,.ls r.1.cZ,.lw r.1.jO,.list (.st (.anon id j)) (r.1.aL.map aB.C)])/\Y=(m.set P0 ((aC.C r.2))).tokset id j true)
theorem Fk:zL (fA):=λa0 a1 r h q m vs P0 ⟨hv,hmP0⟩=>SC.wva hv (SC.ac hmP0 λ_ _ _=>SC_vo func50 call50 ntmps50 results50 4 rfl λ_=>wk .z q m (fA.eq_1 _ _) h)
instance:mN 50 (zL fA):=⟨Fk⟩
def tB (f:(List bW)->bW->Option Int):Prop:=∀a0 a1 r,f a0 a1=some r->AQ prog 175 [.list .none (a0.map cS),.ls a1] (.li r)
theorem yZ (n:Nat):tB (kB n):=λa0 a1 r h q m vs hv=>SC.wva hv (cY func175 call175 ntmps175 results175 rfl (wk (.l [.v 8 Int λy=>.li y] [0,1,7] [] [] none .z .z) q m (kB.eq_1 _ _ _) h))
instance:mN 175 (∀n,tB (kB n)):=⟨yZ⟩
def sC (f:(List bW)->bW->Option Bool):Prop:=∀a0 a1 r,f a0 a1=some r->AQ prog 152 [.list .none (a0.map cS),.ls a1] (.lb r)
theorem wH (n:Nat):sC (jE n):=λa0 a1 r h q m vs hv=>SC.wva hv (cY func152 call152 ntmps152 results152 rfl (wk .z q m (jE.eq_1 _ _ _) h))
instance:mN 152 (∀n,sC (jE n)):=⟨wH⟩
def Ih (f:bW->Option Bool):Prop:=∀a0 r,f a0=some r->∀(q:Pa) (m:M) (vs:List V),vs.map V.weak1=[.ls a0]/\m.gl 2=.eptr [(cA cS cC)] 0 0->SC prog 124 vs q m (λv Y=>v=.lb r/\Y=m)
theorem LG (n:Nat):Ih (wJ n):=λa0 r h q m vs ⟨hv,_⟩=>SC.wva hv (cY func124 call124 ntmps124 results124 rfl (wk .z q m (wJ.eq_1 _ _) h))
instance:mN 124 (∀n,Ih (wJ n)):=⟨LG⟩
def Bg (f:aC->bW->Option Bool):Prop:=∀a0 a1 r,f a0 a1=some r->∀(q:Pa) (m:M) (vs:List V) (P0:Pa),vs.map V.weak1=[.ptr P0 0,.ls a1]/\m.blk P0=some ((aC.C a0))/\m.gl 2=.eptr [(cA cS cC)] 0 0->SC prog 123 vs q m (λv Y=>v=.lb r/\Y=m)
theorem AC (n:Nat):Bg (jP n):=λa0 a1 r h q m vs P0 ⟨hv,hmP0,_⟩=>SC.wva hv (SC.ac hmP0 λ_ _ _=>cY func123 call123 ntmps123 results123 rfl (wk (.j 2 2 31 [.v 4 Bool λy=>.lb y] [0] [0] [] none .z .z) q m (jP.eq_1 _ _ _) h))
instance:mN 123 (∀n,Bg (jP n)):=⟨AC⟩
def zI (f:aC->bW->Option (Bool × aC)):Prop:=∀a0 a1 r,f a0 a1=some r->∀(q:Pa) (m:M) (vs:List V) (P0:Pa),vs.map V.weak1=[.ptr P0 0,.ls a1]/\m.blk P0=some ((aC.C a0))/\m.gl 2=.eptr [(cA cS cC)] 0 0->SC prog 80 vs q m (λv Y=>v=.lb r.1/\Y=(m.set P0 ((aC.C r.2))))
theorem nY (n:Nat):zI (bM n):=λa0 a1 r h q m vs P0 ⟨hv,hmP0,_⟩=>SC.wva hv (SC.ac hmP0 λ_ _ _=>cY func80 call80 ntmps80 results80 rfl (wk .z q m (bM.eq_1 _ _ _) h))
instance:mN 80 (∀n,zI (bM n)):=⟨nY⟩
def zM (f:aC->bW->Option aC):Prop:=∀a0 a1 r,f a0 a1=some r->∀(q:Pa) (m:M) (vs:List V) (P0:Pa),vs.map V.weak1=[.ptr P0 0,.ls a1]/\m.blk P0=some ((aC.C a0))/\m.gl 2=.eptr [(cA cS cC)] 0 0->SC prog 81 vs q m (λv Y=>v=.tup []/\Y=(m.set P0 ((aC.C r))))
theorem oB (n:Nat):zM (bJ n):=λa0 a1 r h q m vs P0 ⟨hv,hmP0,_⟩=>SC.wva hv (SC.ac hmP0 λ_ _ _=>cY func81 call81 ntmps81 results81 rfl (wk .z q m (bJ.eq_1 _ _ _) h))
instance:mN 81 (∀n,zM (bJ n)):=⟨oB⟩
def zN (f:aC->Option (bW × aC)):Prop:=∀a0 r,f a0=some r->∀(q:Pa) (m:M) (vs:List V) (P0:Pa),vs.map V.weak1=[.ptr P0 0]/\m.blk P0=some ((aC.C a0))/\m.gl 2=.eptr [(cA cS cC)] 0 0->SC prog 82 vs q m (λv Y=>v=.ls r.1/\Y=(m.set P0 ((aC.C r.2))))
theorem Fl (n:Nat):zN (eH n):=λa0 r h q m vs P0 ⟨hv,hmP0,_⟩=>SC.wva hv (SC.ac hmP0 λ_ _ _=>cY func82 call82 ntmps82 results82 rfl (wk (.j 2 2 20 [.v 20 Bool λy=>.lb y] [0,3] [0,3] [] none .z .z) q m (eH.eq_1 _ _) h))
instance:mN 82 (∀n,zN (eH n)):=⟨Fl⟩
def wY (f:aC->Option (Int × aC)):Prop:=∀a0 r,f a0=some r->∀(q:Pa) (m:M) (vs:List V) (P0:Pa),vs.map V.weak1=[.ptr P0 0]/\m.blk P0=some ((aC.C a0))->SC prog 153 vs q m (λv Y=>v=.lw r.1/\Y=(m.set P0 ((aC.C r.2))))
theorem DE:wY (kN):=λa0 r h q m vs P0 ⟨hv,hmP0⟩=>SC.wva hv (SC.ac hmP0 λ_ _ _=>cY func153 call153 ntmps153 results153 rfl (wk (.j 2 2 15 [.v 15 Bool λy=>.lb y] [0,3] [0,3] [] none .z .z) q m (kN.eq_1 _) h))
instance:mN 153 (wY kN):=⟨DE⟩
def zJ (f:aC->Option (Int × aC)):Prop:=∀a0 r,f a0=some r->∀(q:Pa) (m:M) (vs:List V) (P0:Pa),vs.map V.weak1=[.ptr P0 0]/\m.blk P0=some ((aC.C a0))/\m.gl 2=.eptr [(cA cS cC)] 0 0->SC prog 125 vs q m (λv Y=>v=.lw r.1/\Y=(m.set P0 ((aC.C r.2))))
theorem Fh (n:Nat):zJ (mD n):=λa0 r h q m vs P0 ⟨hv,hmP0,_⟩=>SC.wva hv (SC.ac hmP0 λ_ _ _=>cY func125 call125 ntmps125 results125 rfl (wk .z q m (mD.eq_1 _ _) h))
instance:mN 125 (∀n,zJ (mD n)):=⟨Fh⟩
def xX (f:aC->Option (aB × aC)):Prop:=∀a0 r,f a0=some r->∀(q:Pa) (m:M) (vs:List V) (P0:Pa),vs.map V.weak1=[.ptr P0 0]/\m.blk P0=some ((aC.C a0))/\m.gl 2=.eptr [(cA cS cC)] 0 0->SC prog 84 vs q m (λv Y=>v=.agg ((aB.C r.1))/\Y=(m.set P0 ((aC.C r.2))))
instance:QV kV 3:=⟨by decide⟩
@[go_sem low] theorem Lr {n:Nat}:List.drop n [V.lit (.string (bs ([112,117,98]:bW))),V.lit (.string (bs ([117,51,50]:bW))),V.lit (.string (bs ([117,54,52]:bW)))]=LI cS kV[n]? ++ cA cS (kV.drop (n+1)):=Ip (f:=cS) (l:=kV)
theorem Ej (n:Nat):xX (nE n):=λa0 r h q m vs P0 ⟨hv,hmP0,_⟩=>SC.wva hv (SC.ac hmP0 λ_ _ _=>cY func84 call84 ntmps84 results84 rfl (wk (.l [.v 15 Int λy=>.li y,.b 0 aC λy=>(aC.C y),.b 2 aB λy=>[.li y.bK,.li y.fM,.ls y.cZ,.lw y.jO,.list .self (y.aL.map aB.C)],.b 3 aB λy=>[.li y.bK,.li y.fM,.ls y.cZ,.lw y.jO,.list .self (y.aL.map aB.C)]] [0,2,3,14] [] [] none .z .z) q m (nE.eq_1 _ _) h))
instance:mN 84 (∀n,xX (nE n)):=⟨Ej⟩
def uC (f:aC->Option ((List aB) × aC)):Prop:=∀a0 r,f a0=some r->∀(q:Pa) (m:M) (vs:List V) (P0:Pa),vs.map V.weak1=[.ptr P0 0,.fn (.func 84) [.ptr P0 0] []]/\m.blk P0=some ((aC.C a0))/\m.gl 2=.eptr [(cA cS cC)] 0 0->SC prog 83 vs q m (λv Y=>∃(id:Pa) (j:Nat),q <:+ id/\v=.list (.st (.anon id j)) (r.1.map aB.C)/\Y=(m.set P0 ((aC.C r.2))).tokset id j true)
theorem AB (n:Nat):uC (gA n):=λa0 r h q m vs P0 ⟨hv,hmP0,_⟩=>SC.wva hv (SC.ac hmP0 λ_ _ _=>SC_vo func83 call83 ntmps83 results83 0 rfl λ_=>wk (.c .z (.j 1 0 8 [.o 5 (List aB) λy=>(y.map aB.C),.b 0 aC λy=>(aC.C y)] [0,1] [] [] none (.s 5 (.l [.o 5 (List aB) λy=>(y.map aB.C),.b 0 aC λy=>(aC.C y)] [0,1] [] [] none .z .z)) .z)) q m (gA.eq_1 _ _) h)
def zP (f:aC->Int->Option aC):Prop:=∀a0 a1 r,f a0 a1=some r->∀(q:Pa) (m:M) (vs:List V) (P0:Pa),vs.map V.weak1=[.ptr P0 0,.li a1]/\m.blk P0=some ((aC.C a0))->SC prog 126 vs q m (λv Y=>v=.tup []/\Y=(m.set P0 ((aC.C r))))
theorem Fp:zP (mF):=λa0 a1 r h q m vs P0 ⟨hv,hmP0⟩=>SC.wva hv (SC.ac hmP0 λ_ _ _=>cY func126 call126 ntmps126 results126 rfl (wk .z q m (mF.eq_1 _ _) h))
instance:mN 126 (zP mF):=⟨Fp⟩
def zK (f:aC->Int->Option bW):Prop:=∀a0 a1 r,f a0 a1=some r->∀(q:Pa) (m:M) (vs:List V) (P0:Pa),vs.map V.weak1=[.ptr P0 0,.li a1]/\m.blk P0=some ((aC.C a0))/\m.gl 2=.eptr [(cA cS cC)] 0 0/\m.gl 6=.eptr [(cA (cA cS) cW)] 0 0->SC prog 188 vs q m (λv Y=>v=.ls r/\Y=m)
theorem Fi (n:Nat):zK (mE n):=by
 rintro a0 a1 r h q m vs P0 ⟨hv,hmP0,hg2,hg6⟩;refine SC.wv hv ?_;refine SC.apart hmP0 λhpP0=>?_
 try simp only [go_sem] at hmP0
 refine sS func188 call188 ntmps188 results188 ?_;unfold mE at h;refine bL ?_;refine aO (aO ?_);obtain ⟨x1,h5,h⟩:=aF h;obtain ⟨f2,f3,f4⟩:=bI h5;have f6:a1<7:=f3;obtain ⟨w7,d8⟩:=Hd (f:=(cA cS)) (s:=3) (Wv (f:=(cA cS)) (s:=3) _ (by kernel_rfl)) f4;have d9:=(Wv (f:=(cA cS)) (s:=3) _ (by kernel_rfl)) _ (FK f4);have d10:=List.take_left' (l₂:=w7) d9;have d11:(3<=(cA cS x1).length+w7.length)=True:=eq_true (by omega);refine dD λ_ z=>?_;simp only [go_sem,seval,f2,f6,d10,d11,d8,hg6];apply z;refine cU ?_;obtain ⟨y14,j14,h⟩:=aF h;refine tQ (λc X Y=>∃v13,lT n x1 a0 c v13=some y14/\X 0=.ptr P0 0/\X 9=.agg ((cA cS x1))/\X 10=.li v13/\Y.blk P0=some ((aC.C a0))/\Y.gl=m.gl/\m.back q Y=m) n ⟨0,j14,?_⟩ ?_
 ·simp only [go_sem,seval,bV,hmP0]
 rintro i12 c15 E16 m17 ⟨v13,j14,e18⟩ _
 rcases c15 with _ | c15
 ·cases j14
 rw [lT] at j14;refine bL ?_;refine aO (dI j14 (λc19 j14=>?_) (λc19 j14=>?_))
 ·refine bP ?_
  refine aO (cU (aO ?_));obtain ⟨x20,h24,j14⟩:=aF j14;obtain ⟨f21,f22,f23⟩:=bI h24;have f25:=(vJ.1 f23).1;have f26:v13<3:=by have:=cA_one d9;omega
  obtain ⟨w27,d28⟩:=Hd (f:=cS) (s:=1) (λ_ _=>rfl) f23;simp only [go_sem] at d28;refine lP ?_;refine aO ?_;obtain ⟨y29,j29,j14⟩:=aF j14;refine tK 10 (λX Y=>X 0=.ptr P0 0/\X 6=.ls x20/\X 9=.agg ((cA cS x1))/\X 10=.li v13/\X 19=.lb y29/\Y.blk P0=some ((aC.C a0))/\Y.gl=m.gl/\m.back q Y=m) ?_ ?_
  ·rcases jR j29 with ⟨c30,j29⟩ | ⟨c30,j29⟩
   ·obtain ⟨x31,h32,j29⟩:=aF j29;refine dD λ_ z=>?_;simp only [go_sem,seval,c30,e18];refine SC.bA (AC n a0 x20 _ h32 _ _ _ P0) ?_;simp only [go_sem,seval];apply z;cases j29;exact jD
   ·refine lP ?_;cases j29;exact jD
  ·intro E33 m34 e35 _;refine dI j14 (λc36 j14=>?_) (λc36 j14=>?_)
   ·refine bL ?_;refine cD ?_
    try simp only [cM,iT]
    cases j14;simp only [Pu] at h;cases h;exact jS
   ·refine bP ?_
    try simp only [aK,bU]
    refine lP ?_;refine ⟨c15,JO _,(i64.wrap (v13+1)),j14,?_⟩;simp only [go_sem,seval,e35]
 ·refine jJ ?_
  try simp only [dB,cP,↓reduceIte,aK]
  cases j14;simp only [xdn] at h;refine bL ?_;refine cD ?_;cases h;exact jS
instance:mN 188 (∀n,zK (mE n)):=⟨Fi⟩
def kR (f:aC->Int->Option ((List aB) × aC)):Prop:=∀a0 a1 r,f a0 a1=some r->∀(q:Pa) (m:M) (vs:List V) (P0:Pa) (P1:Pa) (P2:Pa),vs.map V.weak1=[.ptr P0 0,.fn (.func 196) [] [.ptr P1 0,.ptr P2 0]]/\m.blk P0=some ((aC.C a0))/\m.blk P1=some ([.ptr P0 0])/\m.blk P2=some ([.li a1])/\(P0=P1)=False/\(P0=P2)=False/\(P1=P0)=False/\(P1=P2)=False/\(P2=P0)=False/\(P2=P1)=False/\m.gl 2=.eptr [(cA cS cC)] 0 0/\m.gl 6=.eptr [(cA (cA cS) cW)] 0 0->SC prog 83 vs q m (λv Y=>v=.list .none (r.1.map aB.C)/\Y=(m.set P0 ((aC.C r.2))))
def jG (f:aC->Int->Option (aB × aC)):Prop:=∀a0 a1 r,f a0 a1=some r->∀(q:Pa) (m:M) (vs:List V) (P0:Pa),vs.map V.weak1=[.ptr P0 0,.li a1]/\m.blk P0=some ((aC.C a0))/\m.gl 2=.eptr [(cA cS cC)] 0 0/\m.gl 6=.eptr [(cA (cA cS) cW)] 0 0->SC prog 155 vs q m (λv Y=>v=.agg ((aB.C r.1))/\Y=(m.set P0 ((aC.C r.2))))
def lU (f:aC->Int->Int->Option (aB × aC)):Prop:=∀a0 a1 a2 r,f a0 a1 a2=some r->∀(q:Pa) (m:M) (vs:List V) (P0:Pa),vs.map V.weak1=[.ptr P0 0,.li a1,.li a2]/\m.blk P0=some ((aC.C a0))/\m.gl 2=.eptr [(cA cS cC)] 0 0/\m.gl 6=.eptr [(cA (cA cS) cW)] 0 0->SC prog 176 vs q m (λv Y=>v=.agg ((aB.C r.1))/\Y=(m.set P0 ((aC.C r.2))))
def kJ (f:aC->Int->Option (aB × aC)):Prop:=∀a0 a1 r,f a0 a1=some r->∀(q:Pa) (m:M) (vs:List V) (P0:Pa),vs.map V.weak1=[.ptr P0 0,.li a1]/\m.blk P0=some ((aC.C a0))/\m.gl 2=.eptr [(cA cS cC)] 0 0/\m.gl 6=.eptr [(cA (cA cS) cW)] 0 0->SC prog 187 vs q m (λv Y=>v=.agg ((aB.C r.1))/\Y=(m.set P0 ((aC.C r.2))))
def rY (f:aC->Int->Option (aB × aC)):Prop:=∀a0 a1 r,f a0 a1=some r->∀(q:Pa) (m:M) (vs:List V) (P0:Pa) (P1:Pa) (P2:Pa),vs.map V.weak1=[.ptr P1 0,.ptr P2 0]/\m.blk P0=some ((aC.C a0))/\m.blk P1=some ([.ptr P0 0])/\m.blk P2=some ([.li a1])/\(P0=P1)=False/\(P0=P2)=False/\(P1=P0)=False/\(P1=P2)=False/\(P2=P0)=False/\(P2=P1)=False/\m.gl 2=.eptr [(cA cS cC)] 0 0/\m.gl 6=.eptr [(cA (cA cS) cW)] 0 0->SC prog 196 vs q m (λv Y=>v=.agg ((aB.C r.1))/\Y=(m.set P0 ((aC.C r.2))))
theorem vP {fE} (AG:rY fE) (n:Nat):kR (iX fE n):=by
 rintro a0 a1 r h q m vs P0 P1 P2 ⟨hv,hmP0,hmP1,hmP2,hn0_1,hn0_2,hn1_0,hn1_2,hn2_0,hn2_1,hg2,hg6⟩;refine SC.wv hv ?_;refine SC.apart hmP0 λhpP0=>?_;refine SC.apart hmP1 λhpP1=>?_;refine SC.apart hmP2 λhpP2=>?_;have l0:=Gl hmP0
 try simp only [go_sem] at hmP0 l0
 skip
 try simp only [go_sem,seval] at hmP2
 refine sS func83 call83 ntmps83 results83 ?_;unfold iX at h;refine bL ?_;refine bL ?_;refine aO ?_;obtain ⟨x1,h2,h⟩:=aF h;refine dD λ_ z=>?_;simp only [go_sem,seval];refine SC.bA (oB n a0 ([40]:bW) _ h2 _ _ _ P0) ?_;simp only [go_sem,seval];apply z;refine aO (aO ?_);obtain ⟨x3,h4,h⟩:=aF h;refine dD λ_ z=>?_;simp only [go_sem,seval];refine SC.bA (nY n x1 ([41]:bW) _ h4 _ _ _ P0) ?_;simp only [go_sem,seval];apply z;refine dI h (λc5 h=>?_) (λc5 h=>?_)
 ·refine bL ?_;refine cD ?_
  try simp only [cM]
  cases h;exact jS
 ·refine bP ?_
  refine aO ?_;obtain ⟨y6,j6,h⟩:=aF h;refine tK 8 (λX Y=>∃(oy6_5:Pa) (jy6_5:Nat),X 0=.ptr P0 0/\X 5=.list (.st (.anon oy6_5 jy6_5)) (y6.1.map aB.C)/\Y.tok oy6_5 jy6_5=true/\q <:+ oy6_5/\Y.blk P0=some ((aC.C y6.2))/\Y.blk P1=some ([.ptr P0 0])/\Y.blk P2=some ([.li a1])/\Y.gl=m.gl/\m.back q Y=(m.set P0 ((aC.C y6.2)))) ?_ ?_
  ·refine cU ?_;obtain ⟨y10,j10,j6⟩:=aF j6;refine Cq 5 ([].map aB.C) rfl (by simp only [go_sem,seval,c5]) ?_;refine tQ (λc X Y=>∃v8 v9 o_v8 j_v8,fY fE n a1 c v8 v9=some y10/\X 0=.ptr P0 0/\X 1=.fn (.func 196) [] [.ptr P1 0,.ptr P2 0]/\X 5=.list (.st (.anon o_v8 j_v8)) (v8.map aB.C)/\Y.tok o_v8 j_v8=true/\q <:+ o_v8/\Y.blk P0=some ((aC.C v9))/\Y.blk P1=some ([.ptr P0 0])/\Y.blk P2=some ([.li a1])/\Y.gl=m.gl/\m.back q Y=(m.set P0 ((aC.C v9)))) n ⟨[],x3.2,(6::q),0,j10,?_⟩ ?_
   ·simp only [go_sem,seval,bQ,bV,eX hpP0,hn1_0,hn2_0,c5,hmP1,hmP2]
   rintro i7 c11 E12 m13 ⟨v8,v9,o_v8,j_v8,j10,e14⟩ _
   rcases c11 with _ | c11
   ·cases j10
   rw [fY] at j10;refine aO (bL ?_);refine dI j10 (λc15 j10=>?_) (λc15 j10=>?_)
   ·refine bP ?_
    refine cU (aO ?_);obtain ⟨x16,h17,j10⟩:=aF j10;obtain ⟨f18,j10⟩:=bY j10;have f19:v8.length+1<=1073741824:=by first | omega | (simp only [mX,pX,sY] at f18 ⊢;omega)
    have f20:v8.length<=1073741823:=by first | omega | (simp only [mX,pX,sY] at f18 ⊢;omega)
    refine dD λ_ z=>?_;simp only [go_sem,seval,c15,e14];refine SC.by_ (AG v9 a1 _ h17 _ _ _ P0 P1 P2 (by simp only [go_sem,hn0_1,hn0_2,hn1_0,hn1_2,hn2_0,hn2_1,e14,hg2,hg6])) ?_;simp only [go_sem,seval,f19,e14];apply z;refine aO ?_;obtain ⟨x21,h22,j10⟩:=aF j10;refine dD λ_ z=>?_;simp only [go_sem,seval,e14];refine SC.bA (nY n x16.2 ([44]:bW) _ h22 _ _ _ P0) ?_;simp only [go_sem,seval];apply z;refine dI j10 (λc23 j10=>?_) (λc23 j10=>?_)
    ·refine jJ ?_
     try simp only [seval,dB,cP,aK]
     cases j10;cases j6;refine ⟨by decide,(9::i7::7::q),0,?_⟩;simp only [go_sem,seval,bQ,eX hpP0,hn1_0,hn2_0,c23,e14]
    ·refine bP ?_
     try simp only [aK,bU]
     refine ⟨c11,JO _,(v8++[x16.1]),x21.2,(9::i7::7::q),0,j10,?_⟩;simp only [go_sem,seval,bQ,eX hpP0,hn1_0,hn2_0,c23,e14]
   ·refine jJ ?_
    try simp only [dB,cP,↓reduceIte,aK]
    cases j10;cases j6;refine ⟨by decide,o_v8,j_v8,?_⟩;simp only [go_sem,seval,c15,e14]
  ·rintro E24 m25 ⟨oy6_5,jy6_5,e26⟩ _;refine aO ?_;obtain ⟨x27,h28,h⟩:=aF h;refine dD λ_ z=>?_;simp only [go_sem,seval,e26];refine SC.bA (oB n y6.2 ([41]:bW) _ h28 _ _ _ P0) ?_;simp only [go_sem,seval];apply z;refine bL ?_;refine cD ?_;cases h;exact jS
theorem DG {cR} (sG:lU cR) (n:Nat):jG (pC cR n):=haveI:mN 176 (lU cR):=⟨sG⟩;λa0 a1 r h q m vs P0 ⟨hv,hmP0,_,_⟩=>SC.wva hv (SC.ac hmP0 λ_ _ _=>cY func155 call155 ntmps155 results155 rfl (wk .z q m (pC.eq_1 _ _ _ _) h))
theorem CB {cO} (rJ:kJ cO) {cR} (sG:lU cR) (n:Nat):lU (oC cO cR n):=haveI:mN 187 (kJ cO):=⟨rJ⟩;haveI:mN 176 (lU cR):=⟨sG⟩;λa0 a1 a2 r h q m vs P0 ⟨hv,hmP0,_,_⟩=>SC.wva hv (SC.ac hmP0 λ_ _ _=>cY func176 call176 ntmps176 results176 rfl (wk (.c .z (.l [.v 8 bW λy=>.ls y,.b 0 aC λy=>(aC.C y),.b 7 aB λy=>(aB.C y)] [0,1,2,6,7] [6] [] none .z .z)) q m (oC.eq_1 _ _ _ _ _ _) h))
instance:QV iS 2:=⟨by decide⟩
@[go_sem low] theorem JY {n:Nat}:List.drop n [V.lit (.string (bs ([126]:bW))),V.lit (.string (bs ([45]:bW)))]=LI cS iS[n]? ++ cA cS (iS.drop (n+1)):=Ip (f:=cS) (l:=iS)
theorem Bm {dX} (sU:jG dX) {cO} (rJ:kJ cO) {iE} (vX:kR iE) (n:Nat):kJ (mP dX cO iE n):=haveI:mN 155 (jG dX):=⟨sU⟩;haveI:mN 187 (kJ cO):=⟨rJ⟩;haveI:mN 83 (kR iE):=⟨vX⟩;λa0 a1 r h q m vs P0 ⟨hv,hmP0,_,_⟩=>SC.wva hv (SC.ac hmP0 λ_ _ _=>cY func187 call187 ntmps187 results187 rfl (wk (.c .z (.l [.v 24 Int λy=>.li y,.b 0 aC λy=>(aC.C y),.b 6 aB λy=>[.li y.bK,.li y.fM,.ls y.cZ,.lw y.jO,.list .self (y.aL.map aB.C)],.b 4 aB λy=>[.li y.bK,.li y.fM,.ls y.cZ,.lw y.jO,.list .self (y.aL.map aB.C)]] [0,2,3,4,6,23] [2,3] [] none .z (.j 2 14 26 [.v 51 Bool λy=>.lb y] [0,2,3,4,6] [0,6,2,3,4] [] none .z (.c .z (.j 1 2 47 [.b 0 aC λy=>(aC.C y),.b 6 aB λy=>(aB.C y)] [0,4,6] [4] [(6,4)] none .z .z))))) q m (mP.eq_1 _ _ _ _ _ _) h))
theorem AA {dX} (sU:jG dX) (n:Nat):rY (lG dX n):=haveI:mN 155 (jG dX):=⟨sU⟩;λa0 a1 r h q m vs P0 P1 P2 ⟨hv,hmP0,hmP1,hmP2,_,_,_,_,_,_,_,_⟩=>SC.wva hv (SC.ac hmP0 λ_ _ _=>SC.ac hmP1 λ_ _ _=>SC.ac hmP2 λ_ _ _=>cY func196 call196 ntmps196 results196 rfl (wk .z q m (lG.eq_1 _ _ _ _) h))
theorem qJ:∀n,kR (zY n)/\jG (fB n)/\lU (Gq n)/\kJ (Fj n)/\rY (DD n)
 | 0=>⟨λ_ _ _ h=>dH h,λ_ _ _ h=>dH h,λ_ _ _ _ h=>dH h,λ_ _ _ h=>dH h,λ_ _ _ h=>dH h⟩
 | n+1=>
   have ih:=qJ n
   ⟨vP ih.2.2.2.2 n,DG ih.2.2.1 n,CB ih.2.2.2.1 ih.2.2.1 n,Bm ih.2.1 ih.2.2.2.1 ih.1 n,AA ih.2.1 n⟩
theorem Fo (n:Nat):jG (fB n):=(qJ n).2.1
instance:mN 155 (∀n,jG (fB n)):=⟨Fo⟩
def xY (f:aC->aB->Int->Option (aB × aC)):Prop:=∀a0 a1 a2 r,f a0 a1 a2=some r->∀(q:Pa) (m:M) (vs:List V) (P0:Pa),vs.map V.weak1=[.ptr P0 0,.agg ((aB.C a1)),.li a2]/\m.blk P0=some ((aC.C a0))/\m.gl 2=.eptr [(cA cS cC)] 0 0/\m.gl 6=.eptr [(cA (cA cS) cW)] 0 0->SC prog 154 vs q m (λv Y=>v=.agg ((aB.C r.1))/\Y=(m.set P0 ((aC.C r.2))))
theorem Ek (n:Nat):xY (lH n):=λa0 a1 a2 r h q m vs P0 ⟨hv,hmP0,_,_⟩=>SC.wva hv (SC.ac hmP0 λ_ _ _=>cY func154 call154 ntmps154 results154 rfl (wk .z q m (lH.eq_1 _ _ _ _) h))
instance:mN 154 (∀n,xY (lH n)):=⟨Ek⟩
def DC (f:aC->Int->Option (aB × aC)):Prop:=∀a0 a1 r,f a0 a1=some r->∀(q:Pa) (m:M) (vs:List V) (P0:Pa) (P1:Pa) (P2:Pa),vs.map V.weak1=[.ptr P1 0,.ptr P2 0]/\m.blk P0=some ((aC.C a0))/\m.blk P1=some ([.ptr P0 0])/\m.blk P2=some ([.li a1])/\(P0=P1)=False/\(P0=P2)=False/\(P1=P0)=False/\(P1=P2)=False/\(P2=P0)=False/\(P2=P1)=False/\m.gl 2=.eptr [(cA cS cC)] 0 0/\m.gl 6=.eptr [(cA (cA cS) cW)] 0 0->SC prog 177 vs q m (λv Y=>v=.agg ((aB.C r.1))/\Y=(m.set P0 ((aC.C r.2))))
theorem CA (n:Nat):DC (oA n):=λa0 a1 r h q m vs P0 P1 P2 ⟨hv,hmP0,hmP1,hmP2,_,_,_,_,_,_,_,_⟩=>SC.wva hv (SC.ac hmP0 λ_ _ _=>SC.ac hmP1 λ_ _ _=>SC.ac hmP2 λ_ _ _=>cY func177 call177 ntmps177 results177 rfl (wk .z q m (oA.eq_1 _ _ _) h))
def tE (f:aC->Int->Option ((List aB) × aC)):Prop:=∀a0 a1 r,f a0 a1=some r->∀(q:Pa) (m:M) (vs:List V) (P0:Pa) (P1:Pa) (P2:Pa),vs.map V.weak1=[.ptr P0 0,.fn (.func 177) [] [.ptr P1 0,.ptr P2 0]]/\m.blk P0=some ((aC.C a0))/\m.blk P1=some ([.ptr P0 0])/\m.blk P2=some ([.li a1])/\(P0=P1)=False/\(P0=P2)=False/\(P1=P0)=False/\(P1=P2)=False/\(P2=P0)=False/\(P2=P1)=False/\m.gl 2=.eptr [(cA cS cC)] 0 0/\m.gl 6=.eptr [(cA (cA cS) cW)] 0 0->SC prog 83 vs q m (λv Y=>v=.list .none (r.1.map aB.C)/\Y=(m.set P0 ((aC.C r.2))))
theorem zB (n:Nat):tE (iU n):=by
 rintro a0 a1 r h q m vs P0 P1 P2 ⟨hv,hmP0,hmP1,hmP2,hn0_1,hn0_2,hn1_0,hn1_2,hn2_0,hn2_1,hg2,hg6⟩;refine SC.wv hv ?_;refine SC.apart hmP0 λhpP0=>?_;refine SC.apart hmP1 λhpP1=>?_;refine SC.apart hmP2 λhpP2=>?_;have l0:=Gl hmP0
 try simp only [go_sem] at hmP0 l0
 skip
 try simp only [go_sem,seval] at hmP2
 refine sS func83 call83 ntmps83 results83 ?_;unfold iU at h;refine bL ?_;refine bL ?_;refine aO ?_;obtain ⟨x1,h2,h⟩:=aF h;refine dD λ_ z=>?_;simp only [go_sem,seval];refine SC.bA (oB n a0 ([40]:bW) _ h2 _ _ _ P0) ?_;simp only [go_sem,seval];apply z;refine aO (aO ?_);obtain ⟨x3,h4,h⟩:=aF h;refine dD λ_ z=>?_;simp only [go_sem,seval];refine SC.bA (nY n x1 ([41]:bW) _ h4 _ _ _ P0) ?_;simp only [go_sem,seval];apply z;refine dI h (λc5 h=>?_) (λc5 h=>?_)
 ·refine bL ?_;refine cD ?_
  try simp only [cM]
  cases h;exact jS
 ·refine bP ?_
  refine aO ?_;obtain ⟨y6,j6,h⟩:=aF h;refine tK 8 (λX Y=>∃(oy6_5:Pa) (jy6_5:Nat),X 0=.ptr P0 0/\X 5=.list (.st (.anon oy6_5 jy6_5)) (y6.1.map aB.C)/\Y.tok oy6_5 jy6_5=true/\q <:+ oy6_5/\Y.blk P0=some ((aC.C y6.2))/\Y.blk P1=some ([.ptr P0 0])/\Y.blk P2=some ([.li a1])/\Y.gl=m.gl/\m.back q Y=(m.set P0 ((aC.C y6.2)))) ?_ ?_
  ·refine cU ?_;obtain ⟨y10,j10,j6⟩:=aF j6;refine Cq 5 ([].map aB.C) rfl (by simp only [go_sem,seval,c5]) ?_;refine tQ (λc X Y=>∃v8 v9 o_v8 j_v8,gR n a1 c v8 v9=some y10/\X 0=.ptr P0 0/\X 1=.fn (.func 177) [] [.ptr P1 0,.ptr P2 0]/\X 5=.list (.st (.anon o_v8 j_v8)) (v8.map aB.C)/\Y.tok o_v8 j_v8=true/\q <:+ o_v8/\Y.blk P0=some ((aC.C v9))/\Y.blk P1=some ([.ptr P0 0])/\Y.blk P2=some ([.li a1])/\Y.gl=m.gl/\m.back q Y=(m.set P0 ((aC.C v9)))) n ⟨[],x3.2,(6::q),0,j10,?_⟩ ?_
   ·simp only [go_sem,seval,bQ,bV,eX hpP0,hn1_0,hn2_0,c5,hmP1,hmP2]
   rintro i7 c11 E12 m13 ⟨v8,v9,o_v8,j_v8,j10,e14⟩ _
   rcases c11 with _ | c11
   ·cases j10
   rw [gR] at j10;refine aO (bL ?_);refine dI j10 (λc15 j10=>?_) (λc15 j10=>?_)
   ·refine bP ?_
    refine cU (aO ?_);obtain ⟨x16,h17,j10⟩:=aF j10;obtain ⟨f18,j10⟩:=bY j10;have f19:v8.length+1<=1073741824:=by first | omega | (simp only [mX,pX,sY] at f18 ⊢;omega)
    have f20:v8.length<=1073741823:=by first | omega | (simp only [mX,pX,sY] at f18 ⊢;omega)
    refine dD λ_ z=>?_;simp only [go_sem,seval,c15,e14];refine SC.by_ (CA n v9 a1 _ h17 _ _ _ P0 P1 P2 (by simp only [go_sem,hn0_1,hn0_2,hn1_0,hn1_2,hn2_0,hn2_1,e14,hg2,hg6])) ?_;simp only [go_sem,seval,f19,e14];apply z;refine aO ?_;obtain ⟨x21,h22,j10⟩:=aF j10;refine dD λ_ z=>?_;simp only [go_sem,seval,e14];refine SC.bA (nY n x16.2 ([44]:bW) _ h22 _ _ _ P0) ?_;simp only [go_sem,seval];apply z;refine dI j10 (λc23 j10=>?_) (λc23 j10=>?_)
    ·refine jJ ?_
     try simp only [seval,dB,cP,aK]
     cases j10;cases j6;refine ⟨by decide,(9::i7::7::q),0,?_⟩;simp only [go_sem,seval,bQ,eX hpP0,hn1_0,hn2_0,c23,e14]
    ·refine bP ?_
     try simp only [aK,bU]
     refine ⟨c11,JO _,(v8++[x16.1]),x21.2,(9::i7::7::q),0,j10,?_⟩;simp only [go_sem,seval,bQ,eX hpP0,hn1_0,hn2_0,c23,e14]
   ·refine jJ ?_
    try simp only [dB,cP,↓reduceIte,aK]
    cases j10;cases j6;refine ⟨by decide,o_v8,j_v8,?_⟩;simp only [go_sem,seval,c15,e14]
  ·rintro E24 m25 ⟨oy6_5,jy6_5,e26⟩ _;refine aO ?_;obtain ⟨x27,h28,h⟩:=aF h;refine dD λ_ z=>?_;simp only [go_sem,seval,e26];refine SC.bA (oB n y6.2 ([41]:bW) _ h28 _ _ _ P0) ?_;simp only [go_sem,seval];apply z;refine bL ?_;refine cD ?_;cases h;exact jS
def xW (f:aC->aB->Int->Option (aB × aC)):Prop:=∀a0 a1 a2 r,f a0 a1 a2=some r->∀(q:Pa) (m:M) (vs:List V) (P0:Pa),vs.map V.weak1=[.ptr P0 0,.agg ((aB.C a1)),.li a2]/\m.blk P0=some ((aC.C a0))/\m.gl 2=.eptr [(cA cS cC)] 0 0/\m.gl 6=.eptr [(cA (cA cS) cW)] 0 0->SC prog 158 vs q m (λv Y=>v=.agg ((aB.C r.1))/\Y=(m.set P0 ((aC.C r.2))))
theorem Ei (n:Nat):xW (nD n):=λa0 a1 a2 r h q m vs P0 ⟨hv,hmP0,_,_⟩=>SC.wva hv (SC.ac hmP0 λ_ _ _=>haveI:mN 83 (∀n,tE (iU n)):=⟨zB⟩;cY func158 call158 ntmps158 results158 rfl (wk (.j 1 0 37 [.b 0 aC λy=>(aC.C y),.b 4 aB λy=>(aB.C y)] [0,3,4,6] [3,6] [(4,4)] none .z .z) q m (nD.eq_1 _ _ _ _) h))
instance:mN 158 (∀n,xW (nD n)):=⟨Ei⟩
def iY (f:aC->Int->Option (aB × aC)):Prop:=∀a0 a1 r,f a0 a1=some r->∀(q:Pa) (m:M) (vs:List V) (P0:Pa),vs.map V.weak1=[.ptr P0 0,.li a1]/\m.blk P0=some ((aC.C a0))/\m.gl 2=.eptr [(cA cS cC)] 0 0/\m.gl 6=.eptr [(cA (cA cS) cW)] 0 0->SC prog 85 vs q m (λv Y=>v=.agg ((aB.C r.1))/\Y=(m.set P0 ((aC.C r.2))))
def nZ (f:aC->Int->Option (aB × aC)):Prop:=∀a0 a1 r,f a0 a1=some r->∀(q:Pa) (m:M) (vs:List V) (P0:Pa),vs.map V.weak1=[.ptr P0 0,.li a1]/\m.blk P0=some ((aC.C a0))/\m.gl 2=.eptr [(cA cS cC)] 0 0/\m.gl 6=.eptr [(cA (cA cS) cW)] 0 0->SC prog 127 vs q m (λv Y=>v=.agg ((aB.C r.1))/\Y=(m.set P0 ((aC.C r.2))))
def qL (f:aC->aB->Int->Option (aB × aC)):Prop:=∀a0 a1 a2 r,f a0 a1 a2=some r->∀(q:Pa) (m:M) (vs:List V) (P0:Pa),vs.map V.weak1=[.ptr P0 0,.agg ((aB.C a1)),.li a2]/\m.blk P0=some ((aC.C a0))/\m.gl 2=.eptr [(cA cS cC)] 0 0/\m.gl 6=.eptr [(cA (cA cS) cW)] 0 0->SC prog 156 vs q m (λv Y=>v=.agg ((aB.C r.1))/\Y=(m.set P0 ((aC.C r.2))))
def sB (f:aC->aB->Int->Option (aB × aC)):Prop:=∀a0 a1 a2 r,f a0 a1 a2=some r->∀(q:Pa) (m:M) (vs:List V) (P0:Pa),vs.map V.weak1=[.ptr P0 0,.agg ((aB.C a1)),.li a2]/\m.blk P0=some ((aC.C a0))/\m.gl 2=.eptr [(cA cS cC)] 0 0/\m.gl 6=.eptr [(cA (cA cS) cW)] 0 0->SC prog 157 vs q m (λv Y=>v=.agg ((aB.C r.1))/\Y=(m.set P0 ((aC.C r.2))))
theorem CC {fD} (AF:nZ fD) (n:Nat):iY (oD fD n):=haveI:mN 127 (nZ fD):=⟨AF⟩;λa0 a1 r h q m vs P0 ⟨hv,hmP0,_,_⟩=>SC.wva hv (SC.ac hmP0 λ_ _ _=>cY func85 call85 ntmps85 results85 rfl (wk (.l [.b 0 aC λy=>(aC.C y),.b 5 aB λy=>[.li y.bK,.li y.fM,.ls y.cZ,.lw y.jO,.list .self (y.aL.map aB.C)]] [0,1,4,5] [4] [] none (.j 2 4 10 [.v 22 Bool λy=>.lb y] [0,1,4,5] [0,4,5] [] none .z .z) .z) q m (oD.eq_1 _ _ _ _) h))
theorem Az {lY} (Cg:qL lY) {nC} (DY:sB nC) (n:Nat):nZ (lF lY nC n):=haveI:mN 156 (qL lY):=⟨Cg⟩;haveI:mN 157 (sB nC):=⟨DY⟩;λa0 a1 r h q m vs P0 ⟨hv,hmP0,_,_⟩=>SC.wva hv (SC.ac hmP0 λ_ _ _=>cY func127 call127 ntmps127 results127 rfl (wk (.j 11 0 26 [.b 0 aC λy=>(aC.C y),.b 5 aB λy=>[.li y.bK,.li y.fM,.ls y.cZ,.lw y.jO,.list .self (y.aL.map aB.C)]] [0,4,5] [4] [] none .z .z) q m (lF.eq_1 _ _ _ _ _) h))
theorem BR {dP} (sH:iY dP) (n:Nat):qL (nG dP n):=haveI:mN 85 (iY dP):=⟨sH⟩;λa0 a1 a2 r h q m vs P0 ⟨hv,hmP0,_,_⟩=>SC.wva hv (SC.ac hmP0 λ_ _ _=>cY func156 call156 ntmps156 results156 rfl (wk .z q m (nG.eq_1 _ _ _ _ _) h))
theorem DF {dP} (sH:iY dP) (n:Nat):sB (pB dP n):=haveI:mN 85 (iY dP):=⟨sH⟩;λa0 a1 a2 r h q m vs P0 ⟨hv,hmP0,_,_⟩=>SC.wva hv (SC.ac hmP0 λ_ _ _=>cY func157 call157 ntmps157 results157 rfl (wk .z q m (pB.eq_1 _ _ _ _ _) h))
theorem uR:∀n,iY (eL n)/\nZ (DB n)/\qL (FN n)/\sB (Hk n)
 | 0=>⟨λ_ _ _ h=>dH h,λ_ _ _ h=>dH h,λ_ _ _ _ h=>dH h,λ_ _ _ _ h=>dH h⟩
 | n+1=>
   have ih:=uR n
   ⟨CC ih.2.1 n,Az ih.2.2.1 ih.2.2.2 n,BR ih.1 n,DF ih.1 n⟩
theorem El (n:Nat):iY (eL n):=(uR n).1
instance:mN 85 (∀n,iY (eL n)):=⟨El⟩
def vH (f:aC->Option (aB × aC)):Prop:=∀a0 r,f a0=some r->∀(q:Pa) (m:M) (vs:List V) (P0:Pa),vs.map V.weak1=[.ptr P0 0]/\m.blk P0=some ((aC.C a0))/\m.gl 2=.eptr [(cA cS cC)] 0 0/\m.gl 6=.eptr [(cA (cA cS) cW)] 0 0->SC prog 52 vs q m (λv Y=>v=.agg ((aB.C r.1))/\Y=(m.set P0 ((aC.C r.2))))
theorem BQ (n:Nat):vH (kW n):=λa0 r h q m vs P0 ⟨hv,hmP0,_,_⟩=>SC.wva hv (SC.ac hmP0 λ_ _ _=>haveI:mN 83 (∀n,uC (gA n)):=⟨AB⟩;cY func52 call52 ntmps52 results52 rfl (wk .z q m (kW.eq_1 _ _) h))
instance:mN 52 (∀n,vH (kW n)):=⟨BQ⟩
def LH (f:bW->Option (aB × Int × Int)):Prop:=∀a0 r,f a0=some r->∀(q:Pa) (m:M) (vs:List V),vs.map V.weak1=[.list .none (qF a0)]/\m.gl 1=.eptr [(cA cS fO)] 0 0/\m.gl 2=.eptr [(cA cS cC)] 0 0/\m.gl 6=.eptr [(cA (cA cS) cW)] 0 0->SC prog 25 vs q m (λv Y=>v=.tup [.agg ((aB.C r.1)),.li r.2.1,.li r.2.2]/\Y=m)
theorem KB (n:Nat):LH (Ay n):=λa0 r h q m vs ⟨hv,_,_,_⟩=>SC.wva hv (cY func25 call25 ntmps25 results25 rfl (wk (.c .z (.l [.b 8 aC λy=>(aC.C y),.b 9 aB λy=>[.li y.bK,.li y.fM,.ls y.cZ,.lw y.jO,.list .self (y.aL.map aB.C)]] [2,8,9] [2] [] none (.j 2 6 11 [.v 36 Bool λy=>.lb y] [2,8,9] [2,8,9] [] none .z .z) .z)) q m (Ay.eq_1 _ _) h))
def yF (f:aE->aG->Int->Int->Option aG):Prop:=∀a0 a1 a2 a3 r,f a0 a1 a2 a3=some r->∀(q:Pa) (m:M) (vs:List V) (P0:Pa) (F0 fp0 S0 C0:V),vs.map V.weak1=[.ptr P0 0,.li a2,.li a3]/\m.blk P0=some (qU F0 fp0 S0 C0 a0 a1)/\eO F0 fp0 S0 C0 m.hp a0->SC prog 61 vs q m (λv Y=>v=.tup []/\Y=(m.set P0 (qU F0 fp0 S0 C0 a0 r)))
theorem Ew:yF (qC):=λa0 a1 a2 a3 r h q m vs P0 F0 fp0 S0 C0 ⟨hv,hmP0,t0⟩=>SC.wva hv (SC.ac hmP0 λ_ _ _=>cY func61 call61 ntmps61 results61 rfl (wk .z q m (qC.eq_1 _ _ _ _) h))
instance:mN 61 (yF qC):=⟨Ew⟩
def yB (f:aE->aG->Bool->Int->Int->Option aG):Prop:=∀a0 a1 a2 a3 a4 r,f a0 a1 a2 a3 a4=some r->∀(q:Pa) (m:M) (vs:List V) (P0:Pa) (F0 fp0 S0 C0:V),vs.map V.weak1=[.ptr P0 0,.lb a2,.li a3,.li a4]/\m.blk P0=some (qU F0 fp0 S0 C0 a0 a1)/\eO F0 fp0 S0 C0 m.hp a0->SC prog 29 vs q m (λv Y=>v=.tup []/\Y=(m.set P0 (qU F0 fp0 S0 C0 a0 r)))
theorem bG:yB (aS):=λa0 a1 a2 a3 a4 r h q m vs P0 F0 fp0 S0 C0 ⟨hv,hmP0,t0⟩=>SC.wva hv (SC.ac hmP0 λ_ _ _=>cY func29 call29 ntmps29 results29 rfl (wk .z q m (aS.eq_1 _ _ _ _ _) h))
instance:mN 29 (yB aS):=⟨bG⟩
