/- Lemmas of ours. -/
import Derived.Test.YtncembphlfbgoaaGreatDoorIPGJw
namespace Go.Proofs.YtncembphlfbgoaaGreatDoor.Abs
open Go.RowKit Tryz
open IntKind (i64 u32 u64 u8)
set_option linter.unusedVariables false
set_option maxRecDepth 10000
def HpO (h:Hp) (v:V):Prop:=∀id,id ∉ iY v->h id=none
def PubV (h:Hp) (v:V) (ws:List Int):Prop:=(fD h v 1 (ws.map (cI .u64))/\HpO h v) ∨ (v=.list .self []/\ws=[]/\h=fun _=>none)
theorem Sl {P:Program} {N:Nat} {π:Pa} {k:Nat} {E:dU} {m:M} {Q:Exit->Nat->dU->M->Prop} {x:Code} {id:Pa} {off:Nat} {cs:List V} {J:M->Prop} (h1:J m ∨ (m.blk id=some cs/\cs[off]? = some (.list .self [])/\J (m.set id (cs.set off .nilv)))) (h:∀Y,J Y->SW P N π x k E Y Q):SW P N π x k E m Q:=
 h1.elim (fun j=>h m j) fun ⟨hb,ho,j⟩=>tI hb ho (h _ j)
theorem SW_frv {P:Program} {N:Nat} {π:Pa} {k:Nat} {E:dU} {m:M} {Q:Exit->Nat->dU->M->Prop} {code:Code} {p:Pa} {v:V} {ws:List Int} {rest:List V} (hb:m.blk p=some (v::rest)) (hv:fD m.hp v 1 (ws.map (cI .u64)))
  (h:SW P N π code k E ((m.seth (xI m.hp (iY v))).set p (.list .none (ws.map (cI .u64))::rest)) Q):SW P N π code k E m Q:=by
 intro hf c a w h1 h2 h3;obtain ⟨c',g1,g2,g3⟩:=h1.freezeL (iY v) (fun id hi=>hv.live hi);have hwk:=hv.wk (c:=c') (fun id hi=>g3 id hi);have hld:∀s,v.ld s=v:=fun s=>hv.sh.ld;obtain ⟨r1,r2⟩:=g1.reCell (id:=p) (off:=0) (cs:=v::rest) (v0:=v) (u:=.list .none (ws.map (cI .u64))) hb rfl (fun y hy=>hwk c' (.refl c') y (by rw [hld] at hy;exact hy)) (fun _=>rfl) (fun rows e=>by injection e with e;cases e);have hX:=(g2 π).trans (r2 π);refine wp_mono (h hf c' a w r1 ⟨h2.size,fun t=>(h2.gB t).mono hX.le⟩ (fun j hj id eE=>?_)) fun e a' w' hp=>?_
 ·exact ((g2 (0::id)).trans (r2 (0::id))).fresh id (fun hs=>by have:=hs.length_le;simp only [jC] at this;omega) (h3 j hj id eE)
 ·exact hp.trans hX rfl (fun _ _=>rfl) (fun t ht=>⟨ht,ht⟩)
theorem Gj (ws:List Int):∀r ∈ ws.map (cI .u64),r.length=1:=fun r hr=>by
 obtain ⟨y,_,rfl⟩:=ER.1 hr;rfl
theorem Nr:∀(ws:List Int),(ws.map (cI .u64)).flatten.length=ws.length
 | []=>rfl
 | w::ws=>by simp only [lQ,Fy,nC,Nr ws,jC];show 1+_=_;omega
theorem Hz:∀(ws:List Int),(ws.map (cI .u64)).flatten=ws.map fun z=>V.lit (.int .u64 z)
 | []=>rfl
 | w::ws=>by rw [lQ,Fy,Hz ws,lQ];rfl
theorem vec_set {h:Hp} {v:V} {ws:List Int} {HV:List V} {i:Int} (hv:fD h v 1 (ws.map (cI .u64))) (hh:h (oL v)=some HV) (h0:0<=i) (h1:i<(ws.length:Int)) (x:Int) :
  fD (fun j=>if j=oL v then some (HV.set i.toNat (.lit (.int .u64 x))) else h j) v 1 ((ws.set i.toNat x).map (cI .u64)):=by
 obtain ⟨_,⟨rfl,e⟩ | ⟨id,vs,rfl,e,h2⟩⟩:=hv
 ·have:=congrArg List.length e;simp only [sY,lA] at this;omega
 ·have eE:oL (V.vec id 1 (ws.map (cI .u64)).length)=id:=rfl;rw [eE] at hh ⊢;rw [e] at hh;cases hh;refine ⟨Gj _,.inr ⟨id,_,by rw [sY,sY,GI],if_pos rfl,?_⟩⟩;rw [sY,LO] at h2;rw [sY,GI,LO,List.take_set,h2,Hz,Hz,PP]
theorem fD.vid_mem {h:Hp} {v:V} {ws:List Int} {i:Int} (hv:fD h v 1 (ws.map (cI .u64))) (h0:0<=i) (h1:i<(ws.length:Int)):oL v ∈ iY v:=by
 obtain ⟨_,⟨rfl,e⟩ | ⟨id,vs,rfl,e,h2⟩⟩:=hv
 ·have:=congrArg List.length e;simp only [sY,lA] at this;omega
 ·exact zN.2 rfl
theorem Kq:∀(ws:List Int),(ws.map (cI .u64)).flatten.map V.toHp=(ws.map (cI .u64)).flatten
 | []=>rfl
 | w::ws=>by simp only [lQ,Fy,HS,Kq ws];rfl
def qX (f:cQ->Int->T_interp_Args->T_interp_Args->Int->Option Bool):Prop:=∀a0 a1 a2 a3 a4 r,f a0 a1 a2 a3 a4=some r->∀(q:Pa) (m:M) (vs:List V),vs.map V.weak1=[.list .none (nQ a0),.lit (.int .i64 a1),.agg ((T_interp_Args.C a2)),.agg ((T_interp_Args.C a3)),.lit (.int .i64 a4)]/\(m.hp=fun _=>none)/\m.gl 0=.eptr [(cA bL.C cX)] 0 0/\m.gl 1=.eptr [(cA cS fO)] 0 0/\m.gl 2=.eptr [(cA cS cN)] 0 0/\m.gl 3=.eptr [(cA bY.C dR)] 0 0/\m.gl 5=.eptr [(cA (cA cS) dH)] 0 0->SC prog 6 vs q m (fun v Y=>v=.lit (.bool r)/\Y=m)
theorem vR (n:Nat):qX (gP n):=by
 rintro a0 a1 a2 a3 a4 r h q m vs ⟨hv,hgh,hg0,hg1,hg2,hg3,hg5⟩;refine SC.wv hv (eD func6 call6 ntmps6 results6 ?_);unfold gP at h;refine aL ?_;refine aF (aF ?_);obtain ⟨x3,h4,h⟩:=aA h;refine aP fun K hK=>?_;simp only [go_sem,seval];refine SC.bA (zO n _ h4 _ _ _) ?_;simp only [go_sem,seval];apply hK;refine bH h (fun c5 h=>?_) (fun c5 h=>?_)
 ·refine aL ?_;refine aO ?_
  try simp only [aT]
  obtain rfl:=bO h;exact jS
 ·refine aU ?_
  refine aF (aF ?_);obtain ⟨y6,j6,h⟩:=aA h;refine fX 15 (fun X Y=>X 0=.list .none (nQ a0)/\X 1=.lit (.int .i64 a1)/\X 4=.lit (.int .i64 a4)/\X 7=.ptr (0::q) 0/\X 8=.ptr (1::q) 0/\X 33=.lit (.bool y6)/\Y.blk (0::q)=some ((T_interp_Args.C a2))/\Y.blk (1::q)=some ((T_interp_Args.C a3))/\Y.gl=m.gl/\Y.hp=m.hp/\m.back q Y=m) ?_ ?_
  ·obtain ⟨x7,h8,j6⟩:=aA j6
   rcases dD j6 with ⟨c9,j6⟩ | ⟨c9,j6⟩
   ·refine aP fun K hK=>?_;simp only [go_sem,seval,c5];refine SC.bA (qK a0 a2 a4 _ h8 _ _ _) ?_;simp only [go_sem,seval,c9];apply hK;obtain rfl:=bO j6;exact jD
   ·obtain ⟨x10,h11,j6⟩:=aA j6;refine aP fun K hK=>?_;simp only [go_sem,seval,c5];refine SC.bA (qK a0 a2 a4 _ h8 _ _ _) ?_;simp only [go_sem,seval,c9];refine SC.bA (qK a0 a3 a4 _ h11 _ _ _) ?_;simp only [go_sem,seval];apply hK;obtain rfl:=bO j6;exact jD
  ·intro E12 m13 e14 _;refine bH h (fun c15 h=>?_) (fun c15 h=>?_)
   ·refine aL ?_;refine aO ?_
    try simp only [aT]
    obtain rfl:=bO h;exact jS
   ·refine aU ?_
    refine aF ?_;obtain ⟨x16,h18,h⟩:=aA h;refine aP fun K hK=>?_;simp only [go_sem,seval,e14];refine SC.bA (DP n a0 _ h18 _ _ _) ?_;simp only [go_sem,seval];apply hK;refine aF (aF ?_);obtain ⟨y19,j19,h⟩:=aA h;refine fX 38 (fun X Y=>X 1=.lit (.int .i64 a1)/\X 4=.lit (.int .i64 a4)/\X 7=.ptr (0::q) 0/\X 8=.ptr (1::q) 0/\X 11=.ptr (21::q) 0/\X 52=.lit (.bool y19)/\Y.blk (21::q)=some ((aN.C x16.1))/\Y.blk (0::q)=some ((T_interp_Args.C a2))/\Y.blk (1::q)=some ((T_interp_Args.C a3))/\Y.gl=m.gl/\Y.hp=m.hp/\m.back q Y=m) ?_ ?_
    ·rcases dD j19 with ⟨c20,j19⟩ | ⟨c20,j19⟩
     ·refine cH ?_;obtain rfl:=bO j19;exact jD
     ·
      rcases dD j19 with ⟨c21,j19⟩ | ⟨c21,j19⟩
      ·refine cH ?_;obtain rfl:=bO j19;exact jD
      ·refine cH ?_;obtain rfl:=bO j19;exact jD
    ·intro E22 m23 e24 _;refine bH h (fun c25 h=>?_) (fun c25 h=>?_)
     ·refine aL ?_;refine aO ?_
      try simp only [aT]
      obtain rfl:=bO h;exact jS
     ·refine aU ?_
      refine aF ?_;obtain ⟨x26,h31,h⟩:=aA h;obtain ⟨f28,f29,f30⟩:=aZ h31;refine cH ?_;refine aF ?_;obtain ⟨f33,h⟩:=bP h;have f34:a3.dK.length<=1073741824:=by first | omega | (simp only [nC,jC,lA] at f33 ⊢;omega)
      have hms:(m.seth fun _=>none)=m:=by rw [←hgh];rfl
      refine fX 54 (fun X Y=>(X 1=.lit (.int .i64 a1)/\X 4=.lit (.int .i64 a4)/\X 7=.ptr (0::q) 0/\X 11=.ptr (21::q) 0/\X 14=.ptr (43::q) 0/\X 15=.ptr (52::q) 0)/\(Y.blk (21::q)=some ((aN.C x16.1))/\Y.blk (0::q)=some ((T_interp_Args.C a2))/\Y.blk (43::q)=some ((aR.C x26))/\Y.gl=m.gl/\(m.back q Y).seth (fun _=>none)=m)/\∃v0:V,Y.blk (52::q)=some [v0,.list .none (a3.iS.map (cL (cI .u32)))]/\PubV Y.hp v0 a3.dK) ?_ ?_
      ·by_cases hb:a3.dK=[]
       ·refine eC [(0,0),(1,0),(2,0),(3,0),(4,0),(5,1),(6,0),(7,0),(8,0)] 54 fun K hK=>?_;simp only [go_sem,seval,e24,hb,oU];apply hK;simp only [aK];refine ⟨by decide,?_⟩;simp only [go_sem,seval,bF,dB,cG,e24,hb,hms,hgh];exact ⟨_,rfl,.inr ⟨rfl,rfl,rfl⟩⟩
       ·have hbl:0<a3.dK.length:=List.length_pos_iff.2 hb;refine eC [(0,1),(1,0),(2,0),(3,0),(4,0),(5,1),(6,0),(7,0),(8,0)] 54 fun K hK=>?_;simp only [go_sem,seval,f33,e24,hbl,sY];apply hK;simp only [aK];refine ⟨by decide,?_⟩;simp only [go_sem,seval,bF,e24];refine ⟨by simp only [go_sem,qH,bF,gQ,Iy,e24,hms],.vec (48::q) 1 a3.dK.length,rfl,.inl ⟨⟨Gj _,.inr ⟨48::q,_,by rw [sY],if_pos rfl,?_⟩⟩,fun id eE=>?_⟩⟩
        ·rw [Kq,sY,LO];exact xed (by rw [Nr];exact tJ _)
        ·have hne:id ≠ 48::q:=fun e=>eE (by rw [e];exact zN.2 rfl);show (if id=48::q then _ else m23.hp id)=none;rw [if_neg hne];have:m23.hp=m.hp:=by simp only [e24]
         rw [this,hgh]
      ·intro E1 m1 e1 _;simp only [aK];obtain ⟨e24,g1,v0,g2,g3⟩:=e1;refine Sl (J:=fun Y=>(Y.blk (21::q)=some ((aN.C x16.1))/\Y.blk (0::q)=some ((T_interp_Args.C a2))/\Y.blk (43::q)=some ((aR.C x26))/\Y.gl=m.gl/\(m.back q Y).seth (fun _=>none)=m)/\∃vv:V,Y.blk (52::q)=some [vv,.list .none (a3.iS.map (cL (cI .u32)))]/\fD Y.hp vv 1 (a3.dK.map (cI .u64))/\HpO Y.hp vv) (id:=52::q) (off:=0) (cs:=[v0,.list .none (a3.iS.map (cL (cI .u32)))]) ?_ ?_
       ·rcases g3 with ⟨hv3,ho3⟩ | ⟨rfl,hw3,hh3⟩
        ·exact .inl ⟨g1,v0,g2,hv3,ho3⟩
        ·refine .inr ⟨g2,rfl,?_,.nilv,?_,?_,fun id _=>?_⟩
         ·simp only [go_sem,seval,bF,g1]
         ·simp only [go_sem,seval]
         ·rw [hw3];exact fD.nil _ _
         ·show m1.hp id=none;rw [hh3]
       rintro m2 ⟨e24m,vv,gb,gv,gh⟩;refine aL ?_;refine aF (sW ?_);simp only [go_sem,seval,e24,e24m];refine bM ?_;obtain ⟨y39,j39,h⟩:=aA h;refine kX (fun c X Y=>∃v36 v37 v38,fZ x26 a2 c v36 v37 v38=some y39/\X 1=.lit (.int .i64 a1)/\X 4=.lit (.int .i64 a4)/\X 7=.ptr (0::q) 0/\X 11=.ptr (21::q) 0/\X 14=.ptr (43::q) 0/\X 15=.ptr (52::q) 0/\X 16=.lit (.int .i64 v36)/\X 70=.lit (.int .i64 (min x26.aW (x26.aV.length:Int)))/\X 71=.lit (.int .i64 v37)/\Y.blk (21::q)=some ((aN.C x16.1))/\Y.blk (0::q)=some ((T_interp_Args.C a2))/\Y.blk (43::q)=some ((aR.C x26))/\Y.blk (52::q)=some [vv,.list .none (v38.iS.map (cL (cI .u32)))]/\Y.gl=m.gl/\fD Y.hp vv 1 (v38.dK.map (cI .u64))/\HpO Y.hp vv/\(m.back q Y).seth (fun _=>none)=m) n ⟨(0:Int),(0:Int),(T_interp_Args.mk a3.dK a3.iS),j39,?_⟩ ?_
       ·simp only [go_sem,seval,e24,e24m,gb,gv,gh]
       rintro i35 c40 E41 m42 ⟨v36,v37,v38,j39,e43⟩ _
       rcases c40 with _ | c40
       ·cases j39
       rw [fZ] at j39;have hV:fD m42.hp vv 1 (v38.dK.map (cI .u64)):=by simp only [e43]
       have hsh:=hV.shC;refine aL ?_;refine aF (bH j39 (fun c44 j39=>?_) (fun c44 j39=>?_))
       ·refine aU ?_
        refine aF ?_;obtain ⟨y45,j45,j39⟩:=aA j39;refine fX 44 (fun X Y=>X 1=.lit (.int .i64 a1)/\X 4=.lit (.int .i64 a4)/\X 7=.ptr (0::q) 0/\X 11=.ptr (21::q) 0/\X 14=.ptr (43::q) 0/\X 15=.ptr (52::q) 0/\X 16=.lit (.int .i64 y45.1)/\X 70=.lit (.int .i64 (min x26.aW (x26.aV.length:Int)))/\X 71=.lit (.int .i64 v37)/\Y.blk (21::q)=some ((aN.C x16.1))/\Y.blk (0::q)=some ((T_interp_Args.C a2))/\Y.blk (43::q)=some ((aR.C x26))/\Y.blk (52::q)=some [vv,.list .none (y45.2.iS.map (cL (cI .u32)))]/\Y.gl=m.gl/\fD Y.hp vv 1 (y45.2.dK.map (cI .u64))/\HpO Y.hp vv/\(m.back q Y).seth (fun _=>none)=m) ?_ ?_
        ·refine bM (aL ?_);refine aF (aF ?_);obtain ⟨x46,h50,j45⟩:=aA j45;obtain ⟨f47,f48,f49⟩:=aZ h50;refine cH ?_;refine bH j45 (fun c51 j45=>?_) (fun c51 j45=>?_)
         ·refine dQ ?_
          try simp only [bZ,bR,↓reduceIte,aK]
          obtain rfl:=bO j45;exact jD
         ·refine aU ?_
          refine aF (aF ?_);obtain ⟨y52,j52,j45⟩:=aA j45;refine fX 31 (fun X Y=>X 1=.lit (.int .i64 a1)/\X 4=.lit (.int .i64 a4)/\X 7=.ptr (0::q) 0/\X 11=.ptr (21::q) 0/\X 14=.ptr (43::q) 0/\X 15=.ptr (52::q) 0/\X 16=.lit (.int .i64 v36)/\X 70=.lit (.int .i64 (min x26.aW (x26.aV.length:Int)))/\X 71=.lit (.int .i64 v37)/\X 101=.lit (.bool y52)/\Y.blk (21::q)=some ((aN.C x16.1))/\Y.blk (0::q)=some ((T_interp_Args.C a2))/\Y.blk (43::q)=some ((aR.C x26))/\Y.blk (52::q)=some [vv,.list .none (v38.iS.map (cL (cI .u32)))]/\Y.gl=m.gl/\fD Y.hp vv 1 (v38.dK.map (cI .u64))/\HpO Y.hp vv/\(m.back q Y).seth (fun _=>none)=m) ?_ ?_
          ·rcases dD j52 with ⟨c53,j52⟩ | ⟨c53,j52⟩
           ·
            rcases dD j52 with ⟨c54,j52⟩ | ⟨c54,j52⟩
            ·refine aP fun K hK=>?_;simp only [go_sem,seval,f47,f48,f49,c51,c53,c54,hsh.ld,hsh.slen,e43];apply hK;obtain rfl:=bO j52;exact jD
            ·refine aP fun K hK=>?_;simp only [go_sem,seval,f47,f48,f49,c51,c53,c54,e43];apply hK;obtain rfl:=bO j52;exact jD
           ·refine aP fun K hK=>?_;simp only [go_sem,seval,f47,f48,f49,c51,c53,e43];apply hK;obtain rfl:=bO j52;exact jD
          ·intro E55 m56 e57 _;refine bH j45 (fun c58 j45=>?_) (fun c58 j45=>?_)
           ·obtain ⟨x59,h64,j45⟩:=aA j45;obtain ⟨f61,f62,f63⟩:=aZ h64;obtain ⟨x60,h68,j45⟩:=aA j45;obtain ⟨f65,f66,f67⟩:=aZ h68;have hV2:fD m56.hp vv 1 (v38.dK.map (cI .u64)):=by simp only [e57]
            have hO2:HpO m56.hp vv:=by simp only [e57]
            have hsh2:=hV2.shC;obtain ⟨HV,rst,hHV,hHl,_,_⟩:=hV2.gB (i:=v36.toNat) (r:=cI .u64 x60) (by rw [yH,f67];rfl);rw [sY,LO] at hHl;have hwl:v36.toNat*1+1<=HV.length:=by omega
            refine eC (o0 [0,1,2,3,4,5,6,7,8,9]) 41 fun K hK=>?_;simp only [go_sem,seval,f61,f62,f63,hsh2.ld,sZ.ix (P:=prog) (k:=.i64) hsh2 sz56 f65 f66,hHV,e57];refine ⟨by omega,?_⟩;apply hK;refine eR fun K hK=>?_;simp only [go_sem,seval,e57];apply hK;simp only [aK,aQ];obtain rfl:=bO j45;refine ⟨by decide,?_⟩;simp only [go_sem,seval,e57]
            exact ⟨vec_set hV2 hHV f65 f66 x59,fun id eE=>by
             show (if id=oL vv then _ else m56.hp id)=none;rw [if_neg (fun e=>eE (by rw [e];exact hV2.vid_mem f65 f66))];exact hO2 id eE,by simp only [qH,gQ,Iy,e57]⟩
           ·refine aU ?_
            refine eR fun K hK=>?_;simp only [go_sem,seval,e57];apply hK;simp only [aK,aQ];obtain rfl:=bO j45;exact jD
        ·intro E69 m70 e71 _;refine cH ?_;refine ⟨c40,xQ _,y45.1,(i64.wrap (v37+(1:Int))),y45.2,j39,?_⟩;simp only [go_sem,seval,e71]
       ·refine dQ ?_
        try simp only [bZ,bR,↓reduceIte,aK]
        obtain rfl:=bO j39;have hO:HpO m42.hp vv:=by simp only [e43]
        have hnone:xI m42.hp (iY vv)=fun _=>none:=funext fun i=>by
         unfold xI
         by_cases hi:i ∈ iY vv
         ·rw [if_pos hi]
         ·rw [if_neg hi];exact hO i hi
        refine SW_frv (p:=52::q) (v:=vv) (ws:=v38.dK) (rest:=[.list .none (v38.iS.map (cL (cI .u32)))]) (by simp only [e43]) hV ?_;refine HM (fun Y=>(Y.blk (21::q)=some ((aN.C x16.1))/\Y.blk (0::q)=some ((T_interp_Args.C a2))/\Y.blk (43::q)=some ((aR.C x26))/\Y.gl=m.gl/\m.back q Y=m)/\Y.blk (52::q)=some [.list .none (v38.dK.map (cI .u64)),.list .none (v38.iS.map (cL (cI .u32)))]/\Y.hp=m.hp) ?_ ?_
        ·simp only [go_sem,seval,bF,gQ,hnone,e43,hgh]
        intro m43 e43m;refine aF (aF ?_);obtain ⟨y72,j72,h⟩:=aA h;refine fX 73 (fun X Y=>X 1=.lit (.int .i64 a1)/\X 4=.lit (.int .i64 a4)/\X 7=.ptr (0::q) 0/\X 11=.ptr (21::q) 0/\X 14=.ptr (43::q) 0/\X 15=.ptr (52::q) 0/\X 123=.lit (.bool y72)/\Y.blk (21::q)=some ((aN.C x16.1))/\Y.blk (0::q)=some ((T_interp_Args.C a2))/\Y.blk (43::q)=some ((aR.C x26))/\Y.blk (52::q)=some [.list .none (v38.dK.map (cI .u64)),.list .none (v38.iS.map (cL (cI .u32)))]/\Y.gl=m.gl/\Y.hp=m.hp/\m.back q Y=m) ?_ ?_
        ·obtain ⟨x73,h74,j72⟩:=aA j72
         rcases dD j72 with ⟨c75,j72⟩ | ⟨c75,j72⟩
         ·refine aP fun K hK=>?_;simp only [go_sem,seval,c44,e43,e43m];refine SC.bA (pL n x26 a2 _ h74 _ _ _) ?_;simp only [go_sem,seval,c75];apply hK;obtain rfl:=bO j72;refine ⟨by decide,?_⟩;simp only [go_sem,seval,e43,e43m,hgh]
         ·obtain ⟨x76,h77,j72⟩:=aA j72;refine aP fun K hK=>?_;simp only [go_sem,seval,c44,e43,e43m];refine SC.bA (pL n x26 a2 _ h74 _ _ _) ?_;simp only [go_sem,seval,c75,e43,e43m];refine SC.bA (pL n x26 v38 _ h77 _ _ _) ?_;simp only [go_sem,seval];apply hK;obtain rfl:=bO j72;refine ⟨by decide,?_⟩;simp only [go_sem,seval,e43,e43m,hgh]
        ·intro E78 m79 e80 _;refine bH h (fun c81 h=>?_) (fun c81 h=>?_)
         ·refine aF ?_;obtain ⟨x82,h83,h⟩:=aA h;refine aP fun K hK=>?_;simp only [go_sem,seval,e80];refine SC.bA (rB n x26 a2 v38 _ h83 _ _ _) ?_;simp only [go_sem,seval];apply hK;refine aO ?_
          try simp only [aT]
          obtain rfl:=bO h;exact jS
         ·refine aU ?_
          refine aF ?_;obtain ⟨x84,h86,h⟩:=aA h;refine aP fun K hK=>?_;simp only [go_sem,seval,e80];refine SC.bA (wN n x16.1 a1 a2 a4 _ h86 _ _ _) ?_;simp only [go_sem,seval];apply hK;refine aF ?_;obtain ⟨x87,h89,h⟩:=aA h;refine aP fun K hK=>?_;simp only [go_sem,seval,e80];refine SC.bA (wN n x16.1 a1 v38 a4 _ h89 _ _ _) ?_;simp only [go_sem,seval];apply hK;refine aF ?_;obtain ⟨y90,j90,h⟩:=aA h;refine fX 119 (fun X Y=>X 10=.lit (.bool y90)/\Y.gl=m.gl/\Y.hp=m.hp/\m.back q Y=m) ?_ ?_
          ·obtain ⟨x91,h92,j90⟩:=aA j90
           rcases dD j90 with ⟨c93,j90⟩ | ⟨c93,j90⟩
           ·
            rcases dD j90 with ⟨c94,j90⟩ | ⟨c94,j90⟩
            ·
             rcases dD j90 with ⟨c95,j90⟩ | ⟨c95,j90⟩
             ·obtain ⟨x96,h97,j90⟩:=aA j90;refine aP fun K hK=>?_;simp only [go_sem,seval,e80];refine SC.bA (rB n x26 a2 v38 _ h92 _ _ _) ?_;simp only [go_sem,seval,c93,c94,c95];refine SC.bA (AB n x84.1.zK x87.1.zK _ h97 _ _ _) ?_;simp only [go_sem,seval];apply hK;obtain rfl:=bO j90;exact jD
             ·refine aP fun K hK=>?_;simp only [go_sem,seval,e80];refine SC.bA (rB n x26 a2 v38 _ h92 _ _ _) ?_;simp only [go_sem,seval,c93,c94,c95];apply hK;obtain rfl:=bO j90;exact jD
            ·refine aP fun K hK=>?_;simp only [go_sem,seval,e80];refine SC.bA (rB n x26 a2 v38 _ h92 _ _ _) ?_;simp only [go_sem,seval,c93,c94];apply hK;obtain rfl:=bO j90;exact jD
           ·refine aP fun K hK=>?_;simp only [go_sem,seval,e80];refine SC.bA (rB n x26 a2 v38 _ h92 _ _ _) ?_;simp only [go_sem,seval,c93];apply hK;obtain rfl:=bO j90;exact jD
          ·intro E98 m99 e100 _;refine aO ?_;obtain rfl:=bO h;exact jS
end Go.Proofs.YtncembphlfbgoaaGreatDoor.Abs
