/- Lemmas of ours. -/
import Derived.Test.YtncembphlfbgoaaGreatDoorIPGMm
import Derived.Test.YtncembphlfbgoaaGreatDoorRows
import Derived.LaidMore
import Derived.MakeChecks
import Derived.ChangeSame
namespace Go.Proofs.YtncembphlfbgoaaGreatDoor.Abs
open Go.RowKit
section
variable {H:Type} {enc:TypeId × Value->H} {P:Program} {w:World} {base:Nat} {spare:Nat->Bool} {held:Bool} {fuel:Nat}
theorem Po {α:Type} {l:List α} {i:Nat} {x:α} (h:(l.drop i).take 1=[x]):l[i]? = some x:=by
 rw [←Qh];cases hd:l.drop i with
 | nil=>rw [hd] at h;cases h
 | cons y r=>rw [hd] at h;simp at h;simp [h]
theorem tabS {t e n:Nat} {l:List cQ} {cs:List Value} {p:List MemPlace} (ht:P.underlying t=some (.array n e)) (he:P.underlying e=some .string) (hce:P.cellsOf e=1) (hct:P.cellsOf t=n) (hl:l.length=n)
  (h:DataW.trod enc P w base spare held fuel t cs=some (.agg (l.map fun s=>.lit (.string s)),p)):cs=l.map fun s=>Value.string (bs s):=by
 obtain ⟨xs,m,_,hx,hlen,hn,hel⟩:=DataW.trod_array ht h;simp only [Prod.mk.injEq,DataW.agg.injEq] at hx;rw [hct] at hlen;apply Nc;intro i
 by_cases hi:i<n
 ·have h1:=hel i hi;rw [hce,LO] at h1;obtain ⟨x,hxi⟩:∃x,xs[i]? = some x:=⟨xs[i],tA (by omega)⟩;rw [hxi] at h1;obtain ⟨s,h2,h3,_⟩:=DataW.trod_string he h1;rw [Po h2,yH];obtain ⟨y,hy⟩:∃y,l[i]? = some y:=⟨l[i],tA (by omega)⟩;have h4:(l.map fun s=>(DataW.lit (.string s):DataW H))[i]? = (xs.map (·.1))[i]? := by rw [hx.1]
  rw [yH,yH,hy,hxi,h3] at h4;simp only [Ej,Option.some.injEq,DataW.lit.injEq,Lit.string.injEq] at h4;rw [hy,Ej,h4];cases s;rfl
 ·rw [xdq (by omega),xdq (by simp;omega)]
theorem RM {α:Type} {k:Nat} {cs:List α} {l:List (List α)} (hlen:cs.length=l.length*k) (hk:∀i,i<l.length->∃y,l[i]? = some y/\(cs.drop (i*k)).take k=y):cs=l.flatten:=by
 induction l generalizing cs with
 | nil=>
   rw [lA,Nat.zero_mul] at hlen;rw [List.eq_nil_of_length_eq_zero hlen];rfl
 | cons y l ih=>
   obtain ⟨y',h1,h2⟩:=hk 0 (by simp);obtain rfl:y=y':=by simpa using h1
   rw [Nat.zero_mul,qU] at h2
   have h3:=ih (cs:=cs.drop k) (by rw [HR,hlen,jC,Ip];omega) (fun i hi=>by
    obtain ⟨z,h4,h5⟩:=hk (i+1) (by simpa using hi);refine ⟨z,by simpa using h4,?_⟩;rw [List.drop_drop,←h5,Ip,Nat.add_comm])
   rw [Fy,←h3,←h2,List.take_append_drop]
theorem tabSS {t a e n k:Nat} {l:List (List cQ)} {cs:List Value} {p:List MemPlace} (ht:P.underlying t=some (.array n a)) (ha:P.underlying a=some (.array k e)) (he:P.underlying e=some .string) (hce:P.cellsOf e=1) (hca:P.cellsOf a=k) (hct:P.cellsOf t=n*k)
  (hl:l.length=n) (hk:∀x ∈ l,x.length=k)
  (h:DataW.trod enc P w base spare held fuel t cs=some (.agg (l.map fun x=>.agg (x.map fun s=>.lit (.string s))),p)):cs=(l.map fun x=>x.map fun s=>Value.string (bs s)).flatten:=by
 obtain ⟨xs,m,_,hx,hlen,hn,hel⟩:=DataW.trod_array ht h;simp only [Prod.mk.injEq,DataW.agg.injEq] at hx;rw [hct] at hlen;refine RM (k:=k) (by rw [hlen,sY,hl]) ?_;intro i hi;rw [sY,hl] at hi;have h1:=hel i hi;rw [hca] at h1;obtain ⟨x,hxi⟩:∃x,xs[i]? = some x:=⟨xs[i],tA (by omega)⟩;obtain ⟨y,hy⟩:∃y,l[i]? = some y:=⟨l[i],tA (by omega)⟩;have h4:(l.map fun x=>(DataW.agg (x.map fun s=>.lit (.string s)):DataW H))[i]? = (xs.map (·.1))[i]? := by rw [hx.1]
 rw [yH,yH,hy,hxi] at h4;simp only [Ej,Option.some.injEq] at h4;rw [hxi] at h1;obtain ⟨x1,x2⟩:=x;simp only at h4;subst h4;refine ⟨_,by rw [yH,hy];rfl,?_⟩;exact tabS ha he hce hca (hk y (Al hy)) h1
end
def Nh (ts:List (Nat × List Value)):GG:=fun b o=>(ts.find? (·.1 == b)).bind fun t=>t.2[o]?
def Ge (ts:List (Nat × List Value)):Nat->V:=fun g=>match ts.find? (·.1 == g) with | some t=>.eptr [t.2.map V.lit] 0 0 | none=>.top
theorem Of {w:World} {ts:List (Nat × List Value)} (h:∀t ∈ ts,∀o,w.cell? ⟨t.1,o,none⟩=t.2[o]?):Ez w (Nh ts):=by
 intro b o v hv;unfold Nh at hv;cases hf:ts.find? (·.1 == b) with
 | none=>rw [hf] at hv;cases hv
 | some t=>
   rw [hf] at hv;have h1:=List.find?_some hf;have h2:=List.mem_of_find?_eq_some hf;simp only [beq_iff_eq] at h1;rw [←h1,h t h2 o];exact hv
theorem lits_cr {c:Conc} (l:List Value):CR c (l.map V.lit) l:=by
 induction l with
 | nil=>exact .nil
 | cons v l ih=>exact .lit ih
theorem Qw {c:Conc} {ts:List (Nat × List Value)} (hG:∀b o v,Nh ts b o=some v->c.G b o=some v) (h1:(ts.all fun t=>t.2.all Value.oneCell')=true) (g:Nat):CR c [Ge ts g] [.pointer (some ⟨g,0,none⟩)]:=by
 unfold Ge;cases hf:ts.find? (·.1 == g) with
 | none=>exact .top .nil
 | some t=>
   have h3:=List.mem_of_find?_eq_some hf
   have:=CR.eptr (c:=c) (rows:=[t.2.map V.lit]) (es:=t.2) (sz:=(t.2.map V.lit).length) (i:=0) (off:=0) (b:=g) (o:=0) (vs:=[]) (cs:=[]) (by simpa using lits_cr t.2) (by simp) (fun j u hu=>hG _ _ _ (by simp only [Nh,hf,mS,IZ,hu])) (fun u hu=>by
    have:=Ga.1 h1 t h3;exact Ga.1 this u hu) .nil
   simpa using this
def M.startG (gl:Nat->V):M:={ M.start with gl:=gl }
section
variable {P:Program} {w:World} {G:GG}
theorem LW {gl:Nat->V} (hC:Ez w G) (hg:∀g,CR (Conc.start w G) [gl g] [.pointer (some ⟨g,0,none⟩)]):fT (Conc.start w G) (M.startG gl) w:=
 ⟨hC,fun _ _ h=>Ea h,fun _ _ _ h=>absurd rfl h,fun s b cap sz len _ hk=>Ea hk,fun s s' b cap sz len cap' sz' len' _ _ hk=>Ea hk,fun _ _ _ h=>absurd rfl h,hg,fun _ _=>⟨fun _=>rfl,fun _=>rfl⟩,tJ _,fun _ h=>h.elim,fun _ _ h=>Ea h⟩
theorem Ji {gl:Nat->V} (b:Nat):¬ gH (Conc.start w G) (M.startG gl) b:=by
 rintro (⟨id,h,_⟩ | ⟨s,cap,sz,len,_,hk⟩)
 ·exact h rfl
 ·cases hk
theorem mT.belowG {q:Pa} {c':Conc} {m':M} {w':World} {gl:Nat->V} (h:mT q (Conc.start w G) (M.startG gl) w c' m' w'):Below w.heap.size w w':=
 ⟨h.os,h.tape,h.output,h.size,fun b hb=>h.heap b hb (Ji b) (.inl hb)⟩
theorem SC.claimG {f:FuncId} {args:List V} {xs:List Value} {R:M->Prop} {gl:Nat->V} (hen:∀(xs:Array Value) (w:World),(callFunc f xs).run P w=.ok (.enter f xs) w) (h:SC P f args [] (M.startG gl) (fun r m'=>r=.lit (.bool true)/\R m')) (hC:Ez w G) (hg:∀g,CR (Conc.start w G) [gl g] [.pointer (some ⟨g,0,none⟩)]) (ha:CR (Conc.start w G) args xs) :
  Calls P f xs.toArray w fun e w'=>e=.returned (.bool true)/\Below w.heap.size w w':=by
 rcases h (Conc.start w G) xs w (LW hC hg) ha (Kw []) with ⟨_,k⟩ | ⟨x,w',k,_⟩
 ·refine k.mono fun _ _ ⟨x,c',r,m',e,⟨hr,_⟩,_,hX,hv⟩=>?_;subst e hr;exact ⟨by rw [hv.inv_lit],hX.belowG⟩
 ·rw [hen] at k;cases k
end
def laidP:List (String × DataW Unit):=[("remontoire/lex.signs",Rows.laid_remontoire_lex_signs),("remontoire/parse.words",Rows.laid_remontoire_parse_words),("remontoire/parse.levels",Rows.laid_remontoire_parse_levels)]
def tabsP:List (Nat × List Value):=[(1,fO.map fun s=>.string (bs s)),(2,cN.map fun s=>.string (bs s)),(5,(dH.map fun x=>x.map fun s=>Value.string (bs s)).flatten)]
theorem gSigns:Tryz.prog.globalNamed "remontoire/lex.signs" = some 1:=by kernel_rfl
theorem gWords:Tryz.prog.globalNamed "remontoire/parse.words" = some 2:=by kernel_rfl
theorem gLevels:Tryz.prog.globalNamed "remontoire/parse.levels" = some 5:=by kernel_rfl
section
variable {H:Type} {enc:TypeId × Value->H} {P:Program} {w:World} {base:Nat} {spare:Nat->Bool} {held:Bool} {fuel:Nat}
def Jm (d:Option TypeDesc) (s i:Nat):Bool:=match d with
 | some (.struct fs)=>(fs.toList.map fun f=>(f.type,f.offset)) == [(s,0),(i,1)]
 | _=>false
theorem KK {d:Option TypeDesc} {s i:Nat} (h:Jm d s i=true):∃f0 f1:Field,d=some (.struct #[f0,f1])/\f0.type=s/\f0.offset=0/\f1.type=i/\f1.offset=1:=by
 unfold Jm at h
 split at h
 ·rename_i fs;obtain ⟨l⟩:=fs;simp only [beq_iff_eq] at h;cases l with
  | nil=>cases h
  | cons f0 l=>
  cases l with
  | nil=>simp at h
  | cons f1 l=>
  cases l with
  | nil=>
    simp only [lQ,oU,List.cons.injEq,Prod.mk.injEq,and_true] at h;exact ⟨f0,f1,rfl,h.1.1,h.1.2,h.2.1,h.2.2⟩
  | cons f2 l=>simp at h
 ·cases h
theorem tabR {t a es ei n:Nat} {k:IntKind} {l:List (cQ × Int)} {cs:List Value} {p:List MemPlace} (ht:P.underlying t=some (.array n a)) (har:Jm (P.underlying a) es ei=true)
  (he0:P.underlying es=some .string) (he1:P.underlying ei=some (.int k)) (hc0:P.cellsOf es=1) (hc1:P.cellsOf ei=1) (hca:P.cellsOf a=2) (hct:P.cellsOf t=n*2) (hl:l.length=n)
  (h:DataW.trod enc P w base spare held fuel t cs=some (.agg (l.map fun x=>.agg [.lit (.string x.1),.lit (.int k x.2)]),p)):cs=(l.map fun x=>[Value.string (bs x.1),Value.int k x.2]).flatten:=by
 obtain ⟨f0,f1,ha,rfl,h0,rfl,h1⟩:=KK har;obtain ⟨xs,m,_,hx,hlen,hn,hel⟩:=DataW.trod_array ht h;simp only [Prod.mk.injEq,DataW.agg.injEq] at hx;rw [hct] at hlen;refine RM (k:=2) (by rw [hlen,sY,hl]) ?_;intro i hi;rw [sY,hl] at hi;have h2:=hel i hi;rw [hca] at h2;obtain ⟨x,hxi⟩:∃x,xs[i]? = some x:=⟨xs[i],tA (by omega)⟩;obtain ⟨y,hy⟩:∃y,l[i]? = some y:=⟨l[i],tA (by omega)⟩;have h4:(l.map fun x=>(DataW.agg [.lit (.string x.1),.lit (.int k x.2)]:DataW H))[i]? = (xs.map (·.1))[i]? := by rw [hx.1]
 rw [yH,yH,hy,hxi] at h4;simp only [Ej,Option.some.injEq] at h4;rw [hxi] at h2;refine ⟨_,by rw [yH,hy];rfl,?_⟩;obtain ⟨y0,y1,m2,e1,e2,e3,e4⟩:=Go.ChangeShapes.trod_struct2 ha h2;rw [h0,hc0] at e3;rw [h1,hc1] at e4;obtain ⟨s,g1,g2,_⟩:=DataW.trod_string he0 e3;obtain ⟨z,g3,g4,_⟩:=DataW.trod_int he1 e4;rw [e1,g2,g4] at h4;simp only [DataW.agg.injEq,List.cons.injEq,DataW.lit.injEq,Lit.string.injEq,Lit.int.injEq,true_and,and_true] at h4;rw [hca] at e2
 match hc:(cs.drop (i*2)).take 2,e2 with
 | [a0,a1],_=>
   rw [hc] at g1 g3;simp only [qU,Dm,Bd,List.cons.injEq,and_true,zM] at g1 g3;rw [g1,g3];show [Value.string s,Value.int k z]=[Value.string (bs y.1),Value.int k y.2];rw [h4.1,h4.2];cases s;rfl
end
def laidC:List (String × DataW Unit):=laidP++[("remontoire/check.built",Rows.laid_remontoire_check_built)]
def RZ:List (cQ × Int):=[([115,101,108,101,99,116],3),([108,111,110,103],1),([108,111],1),([104,105],1),([119,105,100,101],2)]
def tabsC:List (Nat × List Value):=tabsP++[(0,(RZ.map fun x=>[Value.string (bs x.1),Value.int .i64 x.2]).flatten)]
theorem gBuilt:Tryz.prog.globalNamed "remontoire/check.built" = some 0:=by kernel_rfl
def laidI:List (String × DataW Unit):=laidC++[("remontoire/interp.ops",Rows.laid_remontoire_interp_ops)]
def opsL:List (cQ × Int):=dR.map fun x=>(x.GZ,x.op_)
def EU:List (Nat × List Value):=tabsC++[(3,(opsL.map fun x=>[Value.string (bs x.1),Value.int .i64 x.2]).flatten)]
theorem gOps:Tryz.prog.globalNamed "remontoire/interp.ops" = some 3:=by kernel_rfl
theorem Pi (os:Os) (args:Array Value):laidMetH Tryz.prog laidI ((World.doorLaid Tryz.prog 400 os).forCall (fun _ _=>0) ⟨#[],args,[]⟩).memory:=
 laidMetH_of_parts3 (fuel:=8) (laidMet_of_run' 8 (by kernel_rfl) (by kernel_rfl)) (by kernel_rfl) (by kernel_rfl)
theorem QX {W:World} (h:laidMetH Tryz.prog laidI W):∀t ∈ EU,∀o,W.cell? ⟨t.1,o,none⟩=t.2[o]? := by
 rw [MakeChecks.laidMetH_plain _ _ _ (by kernel_rfl)] at h;obtain ⟨ps,⟨g0,t0,cs0,f0,p0,q0,hg0,ht0,hv0,hd0,⟨g1,t1,cs1,f1,p1,q1,hg1,ht1,hv1,hd1,⟨g2,t2,cs2,f2,p2,q2,hg2,ht2,hv2,hd2,⟨g3,t3,cs3,f3,p3,q3,hg3,ht3,hv3,hd3,⟨g4,t4,cs4,f4,p4,q4,hg4,ht4,hv4,hd4,_,_⟩,_⟩,_⟩,_⟩,_⟩,_,_⟩:=h;obtain rfl:=Option.some.inj (gSigns.symm.trans hg0);obtain rfl:=Option.some.inj (gWords.symm.trans hg1);obtain rfl:=Option.some.inj (gLevels.symm.trans hg2);obtain rfl:=Option.some.inj (gBuilt.symm.trans hg3);obtain rfl:=Option.some.inj (gOps.symm.trans hg4)
 obtain rfl:t0=234:=by
  have h:(Tryz.prog.globals[1]?).map (·.type)=some 234:=by kernel_rfl
  exact (Option.some.inj (h.symm.trans ht0)).symm
 obtain rfl:t1=254:=by
  have h:(Tryz.prog.globals[2]?).map (·.type)=some 254:=by kernel_rfl
  exact (Option.some.inj (h.symm.trans ht1)).symm
 obtain rfl:t2=295:=by
  have h:(Tryz.prog.globals[5]?).map (·.type)=some 295:=by kernel_rfl
  exact (Option.some.inj (h.symm.trans ht2)).symm
 obtain rfl:t3=185:=by
  have h:(Tryz.prog.globals[0]?).map (·.type)=some 185:=by kernel_rfl
  exact (Option.some.inj (h.symm.trans ht3)).symm
 obtain rfl:t4=283:=by
  have h:(Tryz.prog.globals[3]?).map (·.type)=some 283:=by kernel_rfl
  exact (Option.some.inj (h.symm.trans ht4)).symm
 have hs:Tryz.prog.underlying 9=some .string:=by kernel_rfl
 have hc:Tryz.prog.cellsOf 9=1:=by kernel_rfl
 have e0:=tabS (t:=234) (e:=9) (n:=26) (l:=fO) (by kernel_rfl) hs hc (by kernel_rfl) rfl hd0;have e1:=tabS (t:=254) (e:=9) (n:=13) (l:=cN) (by kernel_rfl) hs hc (by kernel_rfl) rfl hd1;have e2:=tabSS (t:=295) (a:=228) (e:=9) (n:=7) (k:=3) (l:=dH) (by kernel_rfl) (by kernel_rfl) hs hc (by kernel_rfl) (by kernel_rfl) rfl (by decide) hd2;have e3:=tabR (t:=185) (a:=184) (n:=5) (k:=.i64) (es:=9) (ei:=3) (l:=RZ) (by kernel_rfl) (by kernel_rfl) (by kernel_rfl) (by kernel_rfl) (by kernel_rfl) (by kernel_rfl) (by kernel_rfl) (by kernel_rfl) rfl hd3;have e4:=tabR (t:=283) (a:=282) (n:=15) (k:=.i64) (es:=9) (ei:=3) (l:=opsL) (by kernel_rfl) (by kernel_rfl) (by kernel_rfl) (by kernel_rfl) (by kernel_rfl) (by kernel_rfl) (by kernel_rfl) (by kernel_rfl) rfl hd4;intro t ht o;unfold EU tabsC tabsP at ht;simp only [vA,HT,or_false,BO,uG] at ht
 rcases ht with rfl | rfl | rfl | rfl | rfl
 ·rw [World.var?_cell hg0 hv0 o,←e0,xet]
 ·rw [World.var?_cell hg1 hv1 o,←e1,xet]
 ·rw [World.var?_cell hg2 hv2 o,←e2,xet]
 ·rw [World.var?_cell hg3 hv3 o,←e3,xet]
 ·rw [World.var?_cell hg4 hv4 o,←e4,xet]
theorem Oe:(EU.all fun t=>t.2.all Value.oneCell')=true:=by kernel_rfl
theorem tabsI_2:Ge EU 2=.eptr [cA cS cN] 0 0:=by kernel_rfl
theorem tabsI_1:Ge EU 1=.eptr [cA cS fO] 0 0:=by kernel_rfl
theorem tabsI_5:Ge EU 5=.eptr [cA (cA cS) dH] 0 0:=by kernel_rfl
theorem tabsI_0:Ge EU 0=.eptr [cA bL.C cX] 0 0:=by kernel_rfl
theorem tabsI_3:Ge EU 3=.eptr [cA bY.C dR] 0 0:=by kernel_rfl
end Go.Proofs.YtncembphlfbgoaaGreatDoor.Abs
