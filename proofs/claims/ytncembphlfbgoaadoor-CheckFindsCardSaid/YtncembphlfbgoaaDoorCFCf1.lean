/-
 Walks by hand: a program's exported functions: the iterator, and what it does.
-/
import Derived.Test.YtncembphlfbgoaaDoorCFRf1
import Derived.Test.YtncembphlfbgoaaDoorCFGMx
import Derived.Test.YtncembphlfbgoaaDoorCFGMm
import Derived.Test.YtncembphlfbgoaaDoorCFTot
namespace Go.Proofs.YtncembphlfbgoaaDoor.Abs
open Go.RowKit
set_option linter.unusedVariables false
set_option maxRecDepth 10000
theorem expo_at:∀(fs:List aO) (i:Nat) (pre:List Int) (x:Int) (t:List Int),pre++x::t=rR fs i->∃(j:Nat) (f:aO),x=((i+j:Nat):Int)/\fs[j]? = some f/\f.eJ=true/\pre.getLastD ((i:Int) - 1)<x:=by
 intro fs
 induction fs with
 | nil=>intro i pre x t h;simp [rR] at h
 | cons f fs ih=>
   intro i pre x t h;cases hx:f.eJ with
   | true=>
     simp only [rR,hx,if_true] at h;cases pre with
     | nil=>
       simp only [List.nil_append,List.cons.injEq] at h;exact ⟨0,f,by omega,rfl,hx,by rw [h.1];simp [List.getLastD];omega⟩
     | cons y pre=>
       simp only [List.cons_append,List.cons.injEq] at h;obtain ⟨j,g,h1,h2,h3,h4⟩:=ih (i+1) pre x t h.2;refine ⟨j+1,g,by omega,h2,h3,?_⟩;rw [List.getLastD_cons,h.1];have:(((i+1:Nat):Int) - 1)=(i:Int):=by omega
       rw [this] at h4;exact h4
   | false=>
     simp only [rR,hx,Bool.false_eq_true,if_false] at h;obtain ⟨j,g,h1,h2,h3,h4⟩:=ih (i+1) pre x t h;refine ⟨j+1,g,by omega,h2,h3,?_⟩;cases pre with
     | nil=>simp [List.getLastD] at h4 ⊢;omega
     | cons y pre=>rw [List.getLastD_cons] at h4 ⊢;exact h4
theorem expo_le:∀(fs:List aO) (i:Nat),(rR fs i).length<=fs.length:=by
 intro fs
 induction fs with
 | nil=>intro i;simp [rR]
 | cons f fs ih=>
   intro i;have:=ih (i+1);unfold rR
   split <;> simp <;> omega
theorem qK {p id:Pa} {m1 m2:M} (h:m1.back p m2=m1) (dD:¬ p <:+ id):m2.blk id=m1.blk id:=by
 have h1:(if p.isSuffixOf id then m1.blk id else m2.blk id)=m1.blk id:=congrFun (congrArg M.blk h) id;have hs:¬ p.isSuffixOf id=true:=fun e=>dD (List.isSuffixOf_iff_suffix.1 e)
 rwa [if_neg hs] at h1
theorem Cf {q p:Pa} {m m1 m2:M} (hqp:q <:+ p) (h:m1.back p m2=m1) (hb:m.back q m1=m):m.back q m2=m:=by
 have e:m.back q (m1.back p m2)=m.back q m2:=by
  have hs:∀id:Pa,¬ q.isSuffixOf id=true->¬ p.isSuffixOf id=true:=fun id h1 h2=>h1 (List.isSuffixOf_iff_suffix.2 (hqp.trans (List.isSuffixOf_iff_suffix.1 h2)));refine M.ext_hp (funext fun id=>?_) (funext fun id=>?_) (funext fun id=>?_) rfl rfl
  ·show (if q.isSuffixOf id then _ else if p.isSuffixOf id then _ else _)=if q.isSuffixOf id then _ else _
   by_cases h1:q.isSuffixOf id=true
   ·rw [if_pos h1,if_pos h1]
   ·rw [if_neg h1,if_neg h1,if_neg (hs id h1)]
  ·show (if q.isSuffixOf id then _ else if p.isSuffixOf id then _ else _)=if q.isSuffixOf id then _ else _
   by_cases h1:q.isSuffixOf id=true
   ·rw [if_pos h1,if_pos h1]
   ·rw [if_neg h1,if_neg h1,if_neg (hs id h1)]
  ·show (if q.isSuffixOf id then _ else if p.isSuffixOf id then _ else _)=if q.isSuffixOf id then _ else _
   by_cases h1:q.isSuffixOf id=true
   ·rw [if_pos h1,if_pos h1]
   ·rw [if_neg h1,if_neg h1,if_neg (hs id h1)]
 rw [←e,h,hb]
theorem nsx {a b j:Nat} {q:Pa}:¬ (a::b::q) <:+ (j::q):=fun h=>by have:=h.length_le;simp only [List.length_cons] at this;omega
theorem FF {n:Nat} {fs:List aO} {all:Int} (h:EI n fs all=true):fs.length<=1000000/\all=((rR fs 0).length:Int)/\∀f ∈ fs,f.eJ=true->∃w,gK n f=some w/\w<=4:=by
 unfold EI at h;simp only [Bool.and_eq_true,decide_eq_true_eq,List.all_eq_true,Bool.or_eq_true,Bool.not_eq_true'] at h;refine ⟨h.1.1,h.1.2,fun f hf hx=>?_⟩
 rcases h.2 f hf with h1 | h1
 ·rw [hx] at h1;cases h1
 ·unfold Ge at h1;cases hw:gK n f with
  | none=>rw [hw] at h1;cases h1
  | some w=>rw [hw] at h1;exact ⟨w,rfl,by simpa using h1⟩
theorem FE (a0:bV) (q:Pa) (m:M) (vs:List V) (hv:vs.map V.weak1=[.agg (bV.C a0)]) :
  SC Tryd.prog 7 vs q m (fun v m'=>v=.fn (.func 17) [] [.ptr (0::q) 0]/\m'=m.set (0::q) [.list .none (a0.aS.map aO.C)]):=by
 refine SC.weak ?_;rw [hv];refine SC_raw Tryd.func7 rfl (fun xs w=>Tryd.call7 xs w) Tryd.ntmps7 (by kernel_rfl) ?_;rw [congrArg Array.toList Tryd.results7];refine aL fun K hK=>?_;simp only [go_sem,Nat.reduceAdd,List.map_cons,List.map_nil,true_and];apply hK;refine aL fun K hK=>?_;simp only [go_sem,seval,List.map_cons,List.map_nil];apply hK;refine aU ?_;refine ⟨.inl rfl,?_⟩;simp only [go_sem,↓reduceIte,and_true]
theorem EH {P0:Pa} {q:Pa} (fs:List aO) (hpP0:¬ q <:+ P0) (hlen:fs.length<=1000000) :
  Gb Tryd.prog 17 [.ptr P0 0] q (fun m=>m.blk P0=some [.list .none (fs.map aO.C)]) (fun pre x=>∃t,pre++x::t=rR fs 0) (fun xs=>xs=rR fs 0):=by
 intro l A B hI hst hstB hY c m w lb hA hR hF hc;obtain ⟨ys,rfl⟩:∃ys:List Value,lb=ys.toArray:=⟨lb.toList,by simp⟩;have hm:=hI _ _ _ _ hA;refine callsIn_of_wp Tryd.func17 rfl trivial ?_ rfl;have hini:=BV (args:=[.fn (.yield l) [] [],.ptr P0 0]) (xs:=.func (.yield l) #[] #[]::ys) (c:=c) (.fn .nil .nil (by simpa using hc)) Tryd.f17.ntmps;rw [show #[Value.func (.yield l) #[] #[]]++ys.toArray=(.func (.yield l) #[] #[]::ys).toArray from by simp,List.size_toArray];refine Gj (n:=fun k' E' m'=>E' 0=.fn (.yield l) [] []/\E' 6=.list .none (fs.map aO.C)/\E' 7=.lit (.int .i64 (fs.length:Int))/\E' 8=.lit (.int .i64 0)/\m'=m) (k:=0) ?_ hR hini hF.sub ?_ (by kernel_rfl)
 ·refine aM fun K hK=>?_;simp only [go_sem,seval,List.drop_zero,List.length_map,hm];apply hK;simp only [go_sem,seval,and_true]
 rintro k0 E0 m0' c0 a0 w0 ⟨e0,e6,e7,e8,rfl⟩ hR0 hX0 hE0 hF0 hd0 _;have hA0:=hst _ _ _ _ _ _ _ hA hR hR0 hX0 (aK _ _);refine wpIn_block (wpIn_loop_rounds (fs.length+1) ?_)
 have H:∃(rest:List aO) (i:Nat) (pre:List Int) (E:dK) (c:Conc) (m:M),fs.drop i=rest/\i+rest.length=fs.length/\rest.length<fs.length+1/\A pre m c w0/\dL c m w0/\fK c E a0 Tryd.f17.ntmps/\(∀j,i<=j->jU c (j::k0::q))/\pre++rR rest i=rR fs 0 ∧
   E 0=.fn (.yield l) [] []/\E 6=.list .none (fs.map aO.C)/\E 7=.lit (.int .i64 (fs.length:Int))/\E 8=.lit (.int .i64 (i:Int))/\a0.defers=[]:=
  ⟨fs,0,[],E0,c0,_,rfl,by simp,by omega,hA0,hR0,hE0,(fun j _ id dD=>hF0 k0 (Nat.le_refl _) id (pE dD)),rfl,e0,e6,e7,e8,hd0⟩
 clear hR0 hX0 hE0 hF0 hd0 hA0 e0 e6 e7 e8 hini
 generalize fs.length+1=n at H ⊢
 induction n generalizing a0 w0 with
 | zero=>obtain ⟨rest,i,pre,E,c,m,_,_,h,_⟩:=H;omega
 | succ n ih=>
    obtain ⟨rest,i,pre,E,c,m,hdr,hil,hlt,hA,hR,hE,hF,hex,e0,e6,e7,e8,hd⟩:=H;rw [roundsIn_succ];have hFr:iF c (i::k0::q) 0:=(hF i (Nat.le_refl _)).sub;have hm:=hI _ _ _ _ hA;have hpq:¬ (i::k0::q) <:+ P0:=fun h=>hpP0 ((List.suffix_cons _ _).trans ((List.suffix_cons _ _).trans h));refine Gj (n:=fun k' E' m'=>E'=eL (some 9) (.lit (.bool (decide ((i:Int)<(fs.length:Int))))) E/\m'=m) (k:=0) ?_ hR hE hFr ?_ (by kernel_rfl)
    ·refine aM fun K hK=>?_;simp only [go_sem,e7,e8];apply hK;simp only [go_sem,and_true]
    rintro k1 E1 m1 c1 a1 w1 ⟨rfl,rfl⟩ hR1 hX1 hE1 hF1 hd1 _;have hX1q:iG q c m1 w0 c1 m1 w1:=hX1.up.up;have hA1:=hst _ _ _ _ _ _ _ hA hR hR1 hX1q (aK _ _);have hc9:=hE1.ev hR1 (.tmp 9);have hfr1:∀j,i<j->jU c1 (j::k0::q):=fun j hj id dD=>hX1.fresh id (hP dD (by omega)) (hF j (by omega) id dD);cases rest with
    | nil=>
      obtain rfl:i=fs.length:=by simpa using hil
      refine wpIn_seq (wpIn_cond (t:=false) (by simpa [ev,eL] using hc9.inv_lit) ?_);refine wpIn_exit ?_;simp only [Exit.then,Exit.inBlock,↓reduceIte];refine ⟨hd1.trans hd,_,results_none rfl _ _ _,⟨_,rfl⟩,c1,m1,hR1,.inl ⟨_,rfl,?_⟩⟩;rw [←hex];simpa [rR] using hA1
    | cons f rest=>
      have hfi:fs[i]? = some f:=by
       have:=congrArg (fun l=>l[0]?) hdr;simpa using this
      have hilt:i<fs.length:=by simp at hil;omega
      refine wpIn_seq (wpIn_cond (t:=true) (by simpa [ev,eL,hilt] using hc9.inv_lit) ?_);refine wpIn_skip ?_
      let MID:Exit->Act->World->Prop:=fun e a w=>match e with
       | .normal=>∃(pre':List Int) (k5:Nat) (E5:dK) (c5:Conc) (m5:M),A pre' m5 c5 w/\dL c5 m5 w/\fK c5 E5 a Tryd.f17.ntmps/\iF c5 (i::k0::q) k5/\(∀j,i<j->jU c5 (j::k0::q))/\pre'++rR rest (i+1)=rR fs 0/\a.defers=[] ∧
          E5 0=.fn (.yield l) [] []/\E5 6=.list .none (fs.map aO.C)/\E5 7=.lit (.int .i64 (fs.length:Int))/\E5 8=.lit (.int .i64 (i:Int))
       | .ret=>a.defers=[]/\∃(c':Conc) (m':M),dL c' m' w/\B m' c' w
       | _=>False
      refine wpIn_seq (wpIn_mono (Q:=MID) (wpIn_block ?_) ?_)
      rotate_left
      ·rintro e a5 w5 hp;cases e with
       | normal=>
         obtain ⟨pre',k5,E5,c5,m5,h1,h2,h3,h4,h5,h6,h7,h8,h9,h10,h11⟩:=hp;refine IG (n:=fun k' E' m'=>E' 0=.fn (.yield l) [] []/\E' 6=.list .none (fs.map aO.C)/\E' 7=.lit (.int .i64 (fs.length:Int))/\E' 8=.lit (.int .i64 ((i+1:Nat):Int))/\m'=m5) ?_ h2 h3 h4 ?_ (by kernel_rfl)
         ·refine aM fun K hK=>?_;have hw:IntKind.i64.wrap ((i:Int)+1)=((i+1:Nat):Int):=(fQ (by omega) (by omega)).trans (by omega);simp only [go_sem,↓reduceIte,h11,hw];apply hK;simp only [go_sem,seval,and_true,h8,h9,h10]
         rintro k6 E6 m6 c6 a6 w6 ⟨e0',e6',e7',e8',rfl⟩ hR6 hX6 hE6 hF6 hd6 _;exact ih a6 w6 ⟨rest,i+1,pre',E6,c6,m6,by rw [←List.drop_drop,hdr];rfl,by simp at hil;omega,by simp at hlt;omega,hst _ _ _ _ _ _ _ h1 h2 hR6 hX6.up.up (aK _ _),hR6,hE6,(fun j hj id dD=>hX6.fresh id (hP dD (by omega)) (h5 j (by omega) id dD)),h6,e0',e6',e7',e8',hd6.trans h7⟩
       | ret=>
         simp only [Exit.then,Exit.inBlock];obtain ⟨h1,c',m',h2,h3⟩:=hp;exact ⟨h1,_,results_none rfl _ _ _,⟨_,rfl⟩,c',m',h2,.inr h3⟩
       | _=>exact hp.elim
      refine Gj (n:=fun k' E' m'=>E' 0=.fn (.yield l) [] []/\E' 3=.lit (.int .i64 (i:Int))/\(∃id,E' 4=.ptr id 0/\m'.blk id=some (aO.C f))/\E' 6=.list .none (fs.map aO.C)/\E' 7=.lit (.int .i64 (fs.length:Int))/\E' 8=.lit (.int .i64 (i:Int))/\m1.back q m'=m1) ?_ hR1 hE1 hF1 ?_ (by kernel_rfl)
      ·refine aM fun K hK=>?_;have g1:(0:Int)<=(i:Int):=Int.natCast_nonneg _;have g2:(i:Int)<(fs.length:Int):=by omega
       simp only [go_sem,seval,List.map_cons,List.map_nil,Option.map_some,true_and,List.drop_zero,List.take_succ_cons,List.take_zero,List.set_cons_zero,List.set_cons_succ,List.length_cons,List.length_nil,List.length_map,List.getElem?_map,implies_true,e6,e8,g1,g2,hfi];apply hK;simp only [go_sem,seval,true_and,and_true,e0,e6,e7,e8,aQ,aK];exact ⟨_,rfl,if_pos rfl⟩
      rintro k2 E2 m2 c2 a2 w2 ⟨e0',e3',⟨id,e4',dD⟩,e6',e7',e8',hm2⟩ hR2 hX2 hE2 hF2 hd2 _;have hA2:A pre m2 c2 w2:=hst _ _ _ _ _ _ _ hA1 hR1 hR2 hX2.up.up hm2;have hfr2:∀j,i<j->jU c2 (j::k0::q):=fun j hj id dD=>hX2.fresh id (hP dD (by omega)) (hfr1 j hj id dD);have hdd2:a2.defers=[]:=hd2.trans (hd1.trans hd);cases hx:f.eJ with
      | false=>
        refine Gj (n:=fun k' E' m'=>E' 0=.fn (.yield l) [] []/\E' 6=.list .none (fs.map aO.C)/\E' 7=.lit (.int .i64 (fs.length:Int))/\E' 8=.lit (.int .i64 (i:Int))/\E' 20=.lit (.bool false)/\m'=m2) ?_ hR2 hE2 hF2 ?_ (by kernel_rfl)
        ·refine aM fun K hK=>?_;simp only [go_sem,seval,List.drop_succ_cons,List.drop_zero,e4',dD,hx];apply hK;simp only [go_sem,seval,and_true,e0',e6',e7',e8']
        rintro k3 E3 m3 c3 a3 w3 ⟨d0,d6,d7,d8,d20,rfl⟩ hR3 hX3 hE3 hF3 hd3 _;have h20:=hE3.ev hR3 (.tmp 20);refine wpIn_cond (t:=false) (by rw [show ev m3 E3 (.tmp 20)=E3 20 from rfl,d20] at h20;exact h20.inv_lit) ?_;refine wpIn_skip ?_;exact ⟨pre,k3,E3,c3,m3,hst _ _ _ _ _ _ _ hA2 hR2 hR3 hX3.up.up (aK _ _),hR3,hE3,hF3,(fun j hj id dD=>hX3.fresh id (hP dD (by omega)) (hfr2 j hj id dD)),by rw [←hex];simp [rR,hx],hd3.trans hdd2,d0,d6,d7,d8⟩
      | true=>
        refine wpIn_seq (wpIn_region_lit ?_)
        refine AE (r:=none) (P:=Tryd.prog) (N:=Tryd.f17.ntmps) (π:=i::k0::q) (K:=fun k' E' m'=>m'=m2/\E' 0=.fn (.yield l) [] []/\E' 6=.list .none (fs.map aO.C)/\E' 7=.lit (.int .i64 (fs.length:Int))/\E' 8=.lit (.int .i64 (i:Int))/\E' 15=.lit (.bool true)/\E' 16=.fn (.yield l) [] []/\E' 17=.lit (.int .i64 (i:Int)))
         (W:=fun _=>true) (E0:=E2) (c0:=c2) (m0:=m2) (w0:=w2) (a0:=a2) [_,_,_] ?_ [_,_,_,_,_] k2 E2 c2 m2 w2 a2 ?_ (by kernel_rfl) hR2 hE2 hF2 (.refl _ _ _ _) rfl (fun _ h=>nomatch h) (fun _ _ _ _=>rfl)
        ·rintro a3 w3 ⟨c3,k3,E3,m3,⟨rfl,d0,d6,d7,d8,d15,d16,d17⟩,hR3,hX3,hE3,hF3,hd3,_⟩;have hA3:=hst _ _ _ _ _ _ _ hA2 hR2 hR3 hX3.up.up (aK _ _);refine Ic hE3 hR3 (by rw [want_ok (t:=true) hE3 rfl rfl d15];rfl) d16 d17 (hY pre (i:Int) c3 _ w3 ⟨rR rest (i+1),by rw [←hex];simp [rR,hx]⟩ hA3 hR3) ?_;rintro e w' ⟨c',m',hR',hle,hfi,h⟩;have hF4:iF c' (i::k0::q) k3:=fun j hj id dD=>hfi id ((List.suffix_cons _ _).trans ((List.suffix_cons _ _).trans ((List.suffix_cons _ _).trans dD))) (hF3 j hj id dD);have hfr4:∀j,i<j->jU c' (j::k0::q):=fun j hj id dD=>hfi id ((List.suffix_cons _ _).trans ((List.suffix_cons _ _).trans dD)) (hX3.fresh id (hP dD (by omega)) (hfr2 j hj id dD));have hE4:∀r:Bool,fK c' (eL (some 18) (.lit (.bool r)) E3) (a3.put (some 18) (.bool r)) Tryd.f17.ntmps:=fun r=>(hE3.mono hle).put (.lit .nil) (fun i e=>by cases e;decide)
         rcases h with ⟨rfl,hA'⟩ | ⟨rfl,hB⟩
         ·refine ⟨_,rfl,?_⟩
          refine AE (r:=none) (P:=Tryd.prog) (N:=Tryd.f17.ntmps) (π:=i::k0::q) (K:=fun k' E' m1'=>m1'=m'/\E' 0=.fn (.yield l) [] []/\E' 6=.list .none (fs.map aO.C)/\E' 7=.lit (.int .i64 (fs.length:Int))/\E' 8=.lit (.int .i64 (i:Int))/\E' 20=.lit (.bool false))
           (W:=fun _=>true) (E0:=eL (some 18) (.lit (.bool true)) E3) (c0:=c') (m0:=m') (w0:=w') (a0:=a3.put (some 18) (.bool true)) [] ?_ [_,_] k3 (eL (some 18) (.lit (.bool true)) E3) c' m' w' _ ?_ (by kernel_rfl) hR' (hE4 true) hF4 (.refl _ _ _ _) rfl (fun _ h=>nomatch h) (fun _ _ _ _=>rfl)
          ·rintro a4 w4 ⟨c4,k4,E4,m4,⟨rfl,b0,b6,b7,b8,b20⟩,hR4,hX4,hE4',hF4',hd4,_⟩;have h20:=hE4'.ev hR4 (.tmp 20);refine wpIn_cond (t:=false) (by rw [show ev m4 E4 (.tmp 20)=E4 20 from rfl,b20] at h20;exact h20.inv_lit) ?_;refine wpIn_skip ?_;exact ⟨pre++[(i:Int)],k4,E4,c4,m4,hst _ _ _ _ _ _ _ hA' hR' hR4 hX4.up.up (aK _ _),hR4,hE4',hF4',(fun j hj id dD=>hX4.fresh id (hP dD (by omega)) (hfr4 j hj id dD)),by rw [←hex];simp [rR,hx],(hd4.trans ((kL _ _ _).trans hd3)).trans hdd2,b0,b6,b7,b8⟩
          ·simp only [go_sem,seval,and_true,Bool.not_true,d0,d6,d7,d8,d15]
         ·refine ⟨_,rfl,?_⟩
          refine AE (r:=none) (P:=Tryd.prog) (N:=Tryd.f17.ntmps) (π:=i::k0::q) (K:=fun k' E' m1'=>m1'=m'/\E' 20=.lit (.bool true))
           (W:=fun _=>true) (E0:=eL (some 18) (.lit (.bool false)) E3) (c0:=c') (m0:=m') (w0:=w') (a0:=a3.put (some 18) (.bool false)) [] ?_ [_,_] k3 (eL (some 18) (.lit (.bool false)) E3) c' m' w' _ ?_ (by kernel_rfl) hR' (hE4 false) hF4 (.refl _ _ _ _) rfl (fun _ h=>nomatch h) (fun _ _ _ _=>rfl)
          ·rintro a4 w4 ⟨c4,k4,E4,m4,⟨rfl,b20⟩,hR4,hX4,hE4',hF4',hd4,_⟩;have h20:=hE4'.ev hR4 (.tmp 20);refine wpIn_cond (t:=true) (by rw [show ev m4 E4 (.tmp 20)=E4 20 from rfl,b20] at h20;exact h20.inv_lit) ?_;refine wpIn_ret ?_;exact ⟨(hd4.trans ((kL _ _ _).trans hd3)).trans hdd2,c4,m4,hR4,hstB _ _ _ _ _ _ hB hR' hR4 hX4.up.up (aK _ _)⟩
          ·simp only [go_sem,seval,and_true,Bool.not_false,d15]
        ·simp only [go_sem,seval,and_true,List.drop_succ_cons,List.drop_zero,e0',e3',e4',dD,hx,e6',e7',e8']
end Go.Proofs.YtncembphlfbgoaaDoor.Abs
