/-
 vB helper theorems of no one function: what the laid package variables read as; a claim's start with them.
-/
import Derived.Test.YtncembphlfbgoaaDoorCFS3
import Derived.Test.YtncembphlfbgoaaDoorCFA21
import Derived.OpenShut
import Derived.ChangeArms
import Derived.Test.YtncembphlfbgoaaDoorCFGMm
import Derived.Test.YtncembphlfbgoaaDoorRows
import Derived.LaidMore
import Derived.MakeChecks
import Derived.ChangeSame
namespace Go.Proofs.YtncembphlfbgoaaDoor.Abs
open Go.RowKit
section
variable {H:Type} {enc:TypeId × Value->H} {P:Program} {w:World} {base:Nat} {spare:Nat->Bool} {held:Bool} {fuel:Nat}
theorem HD {α:Type} {l:List α} {i:Nat} {x:α} (h:(l.drop i).take 1=[x]):l[i]? = some x:=by
 rw [←List.head?_drop];cases hd:l.drop i with
 | nil=>rw [hd] at h;cases h
 | cons y r=>rw [hd] at h;simp at h;simp [h]
theorem tabS {t e n:Nat} {l:List cD} {cs:List Value} {p:List MemPlace} (ht:P.underlying t=some (.array n e)) (he:P.underlying e=some .string) (hce:P.cellsOf e=1) (hct:P.cellsOf t=n) (hl:l.length=n)
  (h:DataW.trod enc P w base spare held fuel t cs=some (.agg (l.map fun s=>.lit (.string s)),p)):cs=l.map fun s=>Value.string (bs s):=by
 obtain ⟨xs,m,_,hx,hlen,hn,hel⟩:=DataW.trod_array ht h;simp only [Prod.mk.injEq,DataW.agg.injEq] at hx;rw [hct] at hlen;apply List.ext_getElem?;intro i
 by_cases hi:i<n
 ·have h1:=hel i hi;rw [hce,Nat.mul_one] at h1;obtain ⟨x,hxi⟩:∃x,xs[i]? = some x:=⟨xs[i],List.getElem?_eq_getElem (by omega)⟩;rw [hxi] at h1;obtain ⟨s,h2,h3,_⟩:=DataW.trod_string he h1;rw [HD h2,List.getElem?_map];obtain ⟨y,hy⟩:∃y,l[i]? = some y:=⟨l[i],List.getElem?_eq_getElem (by omega)⟩;have h4:(l.map fun s=>(DataW.lit (.string s):DataW H))[i]? = (xs.map (·.1))[i]? := by rw [hx.1]
  rw [List.getElem?_map,List.getElem?_map,hy,hxi,h3] at h4;simp only [Option.map_some,Option.some.injEq,DataW.lit.injEq,Lit.string.injEq] at h4;rw [hy,Option.map_some,h4];cases s;rfl
 ·rw [List.getElem?_eq_none (by omega),List.getElem?_eq_none (by simp;omega)]
theorem Jp {α:Type} {k:Nat} {cs:List α} {l:List (List α)} (hlen:cs.length=l.length*k) (hk:∀i,i<l.length->∃y,l[i]? = some y/\(cs.drop (i*k)).take k=y):cs=l.flatten:=by
 induction l generalizing cs with
 | nil=>
   rw [List.length_nil,Nat.zero_mul] at hlen;rw [List.eq_nil_of_length_eq_zero hlen];rfl
 | cons y l ih=>
   obtain ⟨y',h1,h2⟩:=hk 0 (by simp);obtain rfl:y=y':=by simpa using h1
   rw [Nat.zero_mul,List.drop_zero] at h2
   have h3:=ih (cs:=cs.drop k) (by rw [List.length_drop,hlen,List.length_cons,Nat.succ_mul];omega) (fun i hi=>by
    obtain ⟨z,h4,h5⟩:=hk (i+1) (by simpa using hi);refine ⟨z,by simpa using h4,?_⟩;rw [List.drop_drop,←h5,Nat.succ_mul,Nat.add_comm])
   rw [List.flatten_cons,←h3,←h2,List.take_append_drop]
theorem tabSS {t a e n k:Nat} {l:List (List cD)} {cs:List Value} {p:List MemPlace} (ht:P.underlying t=some (.array n a)) (ha:P.underlying a=some (.array k e)) (he:P.underlying e=some .string) (hce:P.cellsOf e=1) (hca:P.cellsOf a=k) (hct:P.cellsOf t=n*k)
  (hl:l.length=n) (hk:∀x ∈ l,x.length=k)
  (h:DataW.trod enc P w base spare held fuel t cs=some (.agg (l.map fun x=>.agg (x.map fun s=>.lit (.string s))),p)):cs=(l.map fun x=>x.map fun s=>Value.string (bs s)).flatten:=by
 obtain ⟨xs,m,_,hx,hlen,hn,hel⟩:=DataW.trod_array ht h;simp only [Prod.mk.injEq,DataW.agg.injEq] at hx;rw [hct] at hlen;refine Jp (k:=k) (by rw [hlen,List.length_map,hl]) ?_;intro i hi;rw [List.length_map,hl] at hi;have h1:=hel i hi;rw [hca] at h1;obtain ⟨x,hxi⟩:∃x,xs[i]? = some x:=⟨xs[i],List.getElem?_eq_getElem (by omega)⟩;obtain ⟨y,hy⟩:∃y,l[i]? = some y:=⟨l[i],List.getElem?_eq_getElem (by omega)⟩;have h4:(l.map fun x=>(DataW.agg (x.map fun s=>.lit (.string s)):DataW H))[i]? = (xs.map (·.1))[i]? := by rw [hx.1]
 rw [List.getElem?_map,List.getElem?_map,hy,hxi] at h4;simp only [Option.map_some,Option.some.injEq] at h4;rw [hxi] at h1;obtain ⟨x1,x2⟩:=x;simp only at h4;subst h4;refine ⟨_,by rw [List.getElem?_map,hy];rfl,?_⟩;exact tabS ha he hce hca (hk y (List.mem_of_getElem? hy)) h1
end
def Aq (ts:List (Nat × List Value)):GG:=fun b o=>(ts.find? (·.1 == b)).bind fun t=>t.2[o]?
def BB (ts:List (Nat × List Value)):Nat->V:=fun g=>match ts.find? (·.1 == g) with | some t=>.eptr [t.2.map V.lit] 0 0 | none=>.top
theorem GJ {w:World} {ts:List (Nat × List Value)} (h:∀t ∈ ts,∀o,w.cell? ⟨t.1,o,none⟩=t.2[o]?):yY w (Aq ts):=by
 intro b o v hv;unfold Aq at hv;cases hf:ts.find? (·.1 == b) with
 | none=>rw [hf] at hv;cases hv
 | some t=>
   rw [hf] at hv;have h1:=List.find?_some hf;have h2:=List.mem_of_find?_eq_some hf;simp only [beq_iff_eq] at h1;rw [←h1,h t h2 o];exact hv
theorem lits_cr {c:Conc} (l:List Value):CR c (l.map V.lit) l:=by
 induction l with
 | nil=>exact .nil
 | cons v l ih=>exact .lit ih
theorem Im {c:Conc} {ts:List (Nat × List Value)} (hG:∀b o v,Aq ts b o=some v->c.G b o=some v) (h1:(ts.all fun t=>t.2.all Value.oneCell')=true) (g:Nat):CR c [BB ts g] [.pointer (some ⟨g,0,none⟩)]:=by
 unfold BB;cases hf:ts.find? (·.1 == g) with
 | none=>exact .top .nil
 | some t=>
   have h3:=List.mem_of_find?_eq_some hf
   have:=CR.eptr (c:=c) (rows:=[t.2.map V.lit]) (es:=t.2) (sz:=(t.2.map V.lit).length) (i:=0) (off:=0) (b:=g) (o:=0) (vs:=[]) (cs:=[]) (by simpa using lits_cr t.2) (by simp) (fun j u hu=>hG _ _ _ (by simp only [Aq,hf,Option.bind_some,Nat.zero_add,hu])) (fun u hu=>by
    have:=List.all_eq_true.1 h1 t h3;exact List.all_eq_true.1 this u hu) .nil
   simpa using this
def M.startG (gl:Nat->V):M:={ M.start with gl:=gl }
section
variable {P:Program} {w:World} {G:GG}
theorem Fa {gl:Nat->V} (hC:yY w G) (hg:∀g,CR (Conc.start w G) [gl g] [.pointer (some ⟨g,0,none⟩)]):dL (Conc.start w G) (M.startG gl) w:=
 ⟨hC,fun _ _ h=>zD h,fun _ _ _ h=>absurd rfl h,fun s b cap sz len _ hk=>zD hk,fun s s' b cap sz len cap' sz' len' _ _ hk=>zD hk,fun _ _ _ h=>absurd rfl h,hg,fun _ _=>⟨fun _=>rfl,fun _=>rfl⟩,Nat.le_refl _,fun _ h=>h.elim,fun _ _ h=>zD h⟩
theorem Db {gl:Nat->V} (b:Nat):¬ fB (Conc.start w G) (M.startG gl) b:=by
 rintro (⟨id,h,_⟩ | ⟨s,cap,sz,len,_,hk⟩)
 ·exact h rfl
 ·cases hk
theorem iG.belowG {q:Pa} {c':Conc} {m':M} {w':World} {gl:Nat->V} (h:iG q (Conc.start w G) (M.startG gl) w c' m' w'):Below w.heap.size w w':=
 ⟨h.os,h.tape,h.output,h.size,fun b hb=>h.heap b hb (Db b) (.inl hb)⟩
theorem SC.claimG {f:FuncId} {args:List V} {xs:List Value} {R:M->Prop} {gl:Nat->V} (hen:∀(xs:Array Value) (w:World),(callFunc f xs).run P w=.ok (.enter f xs) w) (h:SC P f args [] (M.startG gl) (fun r m'=>r=.lit (.bool true)/\R m')) (hC:yY w G) (hg:∀g,CR (Conc.start w G) [gl g] [.pointer (some ⟨g,0,none⟩)]) (ha:CR (Conc.start w G) args xs) :
  Calls P f xs.toArray w fun e w'=>e=.returned (.bool true)/\Below w.heap.size w w':=by
 rcases h (Conc.start w G) xs w (Fa hC hg) ha (DT []) with ⟨_,k⟩ | ⟨x,w',k,_⟩
 ·refine k.mono fun _ _ ⟨x,c',r,m',e,⟨hr,_⟩,_,hX,hv⟩=>?_;subst e hr;exact ⟨by rw [hv.inv_lit],hX.belowG⟩
 ·rw [hen] at k;cases k
end
end Go.Proofs.YtncembphlfbgoaaDoor.Abs
namespace Go.Proofs.YtncembphlfbgoaaDoor.Abs
open Go.RowKit
def laidP:List (String × DataW Unit):=[("remontoire/lex.signs",Rows.laid_remontoire_lex_signs),("remontoire/parse.words",Rows.laid_remontoire_parse_words),("remontoire/parse.levels",Rows.laid_remontoire_parse_levels)]
def tabsP:List (Nat × List Value):=[(1,eF.map fun s=>.string (bs s)),(2,bT.map fun s=>.string (bs s)),(4,(cT.map fun x=>x.map fun s=>Value.string (bs s)).flatten)]
theorem gSigns:Tryd.prog.globalNamed "remontoire/lex.signs" = some 1:=by kernel_rfl
theorem gWords:Tryd.prog.globalNamed "remontoire/parse.words" = some 2:=by kernel_rfl
theorem gLevels:Tryd.prog.globalNamed "remontoire/parse.levels" = some 4:=by kernel_rfl
end Go.Proofs.YtncembphlfbgoaaDoor.Abs
namespace Go.Proofs.YtncembphlfbgoaaDoor.Abs
open Go.RowKit
section
variable {H:Type} {enc:TypeId × Value->H} {P:Program} {w:World} {base:Nat} {spare:Nat->Bool} {held:Bool} {fuel:Nat}
def Df (d:Option TypeDesc) (s i:Nat):Bool:=match d with
 | some (.struct fs)=>(fs.toList.map fun f=>(f.type,f.offset)) == [(s,0),(i,1)]
 | _=>false
theorem Ef {d:Option TypeDesc} {s i:Nat} (h:Df d s i=true):∃f0 f1:Field,d=some (.struct #[f0,f1])/\f0.type=s/\f0.offset=0/\f1.type=i/\f1.offset=1:=by
 unfold Df at h
 split at h
 ·rename_i fs;obtain ⟨l⟩:=fs;simp only [beq_iff_eq] at h;cases l with
  | nil=>cases h
  | cons f0 l=>
  cases l with
  | nil=>simp at h
  | cons f1 l=>
  cases l with
  | nil=>
    simp only [List.map_cons,List.map_nil,List.cons.injEq,Prod.mk.injEq,and_true] at h;exact ⟨f0,f1,rfl,h.1.1,h.1.2,h.2.1,h.2.2⟩
  | cons f2 l=>simp at h
 ·cases h
theorem tabR {t a es ei n:Nat} {k:IntKind} {l:List (cD × Int)} {cs:List Value} {p:List MemPlace} (ht:P.underlying t=some (.array n a)) (har:Df (P.underlying a) es ei=true)
  (he0:P.underlying es=some .string) (he1:P.underlying ei=some (.int k)) (hc0:P.cellsOf es=1) (hc1:P.cellsOf ei=1) (hca:P.cellsOf a=2) (hct:P.cellsOf t=n*2) (hl:l.length=n)
  (h:DataW.trod enc P w base spare held fuel t cs=some (.agg (l.map fun x=>.agg [.lit (.string x.1),.lit (.int k x.2)]),p)):cs=(l.map fun x=>[Value.string (bs x.1),Value.int k x.2]).flatten:=by
 obtain ⟨f0,f1,ha,rfl,h0,rfl,h1⟩:=Ef har;obtain ⟨xs,m,_,hx,hlen,hn,hel⟩:=DataW.trod_array ht h;simp only [Prod.mk.injEq,DataW.agg.injEq] at hx;rw [hct] at hlen;refine Jp (k:=2) (by rw [hlen,List.length_map,hl]) ?_;intro i hi;rw [List.length_map,hl] at hi;have h2:=hel i hi;rw [hca] at h2;obtain ⟨x,hxi⟩:∃x,xs[i]? = some x:=⟨xs[i],List.getElem?_eq_getElem (by omega)⟩;obtain ⟨y,hy⟩:∃y,l[i]? = some y:=⟨l[i],List.getElem?_eq_getElem (by omega)⟩;have h4:(l.map fun x=>(DataW.agg [.lit (.string x.1),.lit (.int k x.2)]:DataW H))[i]? = (xs.map (·.1))[i]? := by rw [hx.1]
 rw [List.getElem?_map,List.getElem?_map,hy,hxi] at h4;simp only [Option.map_some,Option.some.injEq] at h4;rw [hxi] at h2;refine ⟨_,by rw [List.getElem?_map,hy];rfl,?_⟩;obtain ⟨y0,y1,m2,e1,e2,e3,e4⟩:=Go.ChangeShapes.trod_struct2 ha h2;rw [h0,hc0] at e3;rw [h1,hc1] at e4;obtain ⟨s,g1,g2,_⟩:=DataW.trod_string he0 e3;obtain ⟨z,g3,g4,_⟩:=DataW.trod_int he1 e4;rw [e1,g2,g4] at h4;simp only [DataW.agg.injEq,List.cons.injEq,DataW.lit.injEq,Lit.string.injEq,Lit.int.injEq,true_and,and_true] at h4;rw [hca] at e2
 match hc:(cs.drop (i*2)).take 2,e2 with
 | [a0,a1],_=>
   rw [hc] at g1 g3;simp only [List.drop_zero,List.take_succ_cons,List.take_zero,List.cons.injEq,and_true,List.drop_succ_cons] at g1 g3;rw [g1,g3];show [Value.string s,Value.int k z]=[Value.string (bs y.1),Value.int k y.2];rw [h4.1,h4.2];cases s;rfl
end
def laidC:List (String × DataW Unit):=laidP++[("remontoire/check.built",Rows.laid_remontoire_check_built)]
def Jy:List (cD × Int):=[([115,101,108,101,99,116],3),([108,111,110,103],1),([108,111],1),([104,105],1),([119,105,100,101],2)]
def vE:List (Nat × List Value):=tabsP++[(0,(Jy.map fun x=>[Value.string (bs x.1),Value.int .i64 x.2]).flatten)]
theorem gBuilt:Tryd.prog.globalNamed "remontoire/check.built" = some 0:=by kernel_rfl
theorem Hx (os:Os) (args:Array Value):laidMetH Tryd.prog laidC ((World.doorLaid Tryd.prog 400 os).forCall (fun _ _=>0) ⟨#[],args,[]⟩).memory:=
 laidMetH_of_parts3 (fuel:=8) (laidMet_of_run' 8 (by kernel_rfl) (by kernel_rfl)) (by kernel_rfl) (by kernel_rfl)
theorem II {W:World} (h:laidMetH Tryd.prog laidC W):∀t ∈ vE,∀o,W.cell? ⟨t.1,o,none⟩=t.2[o]? := by
 rw [MakeChecks.laidMetH_plain _ _ _ (by kernel_rfl)] at h;obtain ⟨ps,⟨g0,t0,cs0,f0,p0,q0,hg0,ht0,hv0,hd0,⟨g1,t1,cs1,f1,p1,q1,hg1,ht1,hv1,hd1,⟨g2,t2,cs2,f2,p2,q2,hg2,ht2,hv2,hd2,⟨g3,t3,cs3,f3,p3,q3,hg3,ht3,hv3,hd3,_,_⟩,_⟩,_⟩,_⟩,_,_⟩:=h;obtain rfl:=Option.some.inj (gSigns.symm.trans hg0);obtain rfl:=Option.some.inj (gWords.symm.trans hg1);obtain rfl:=Option.some.inj (gLevels.symm.trans hg2);obtain rfl:=Option.some.inj (gBuilt.symm.trans hg3)
 obtain rfl:t0=112:=by
  have h:(Tryd.prog.globals[1]?).map (·.type)=some 112:=by kernel_rfl
  exact (Option.some.inj (h.symm.trans ht0)).symm
 obtain rfl:t1=115:=by
  have h:(Tryd.prog.globals[2]?).map (·.type)=some 115:=by kernel_rfl
  exact (Option.some.inj (h.symm.trans ht1)).symm
 obtain rfl:t2=133:=by
  have h:(Tryd.prog.globals[4]?).map (·.type)=some 133:=by kernel_rfl
  exact (Option.some.inj (h.symm.trans ht2)).symm
 obtain rfl:t3=93:=by
  have h:(Tryd.prog.globals[0]?).map (·.type)=some 93:=by kernel_rfl
  exact (Option.some.inj (h.symm.trans ht3)).symm
 have hs:Tryd.prog.underlying 9=some .string:=by kernel_rfl
 have hc:Tryd.prog.cellsOf 9=1:=by kernel_rfl
 have e0:=tabS (t:=112) (e:=9) (n:=26) (l:=eF) (by kernel_rfl) hs hc (by kernel_rfl) rfl hd0;have e1:=tabS (t:=115) (e:=9) (n:=13) (l:=bT) (by kernel_rfl) hs hc (by kernel_rfl) rfl hd1;have e2:=tabSS (t:=133) (a:=102) (e:=9) (n:=7) (k:=3) (l:=cT) (by kernel_rfl) (by kernel_rfl) hs hc (by kernel_rfl) (by kernel_rfl) rfl (by decide) hd2;have e3:=tabR (t:=93) (a:=92) (n:=5) (k:=.i64) (es:=9) (ei:=3) (l:=Jy) (by kernel_rfl) (by kernel_rfl) (by kernel_rfl) (by kernel_rfl) (by kernel_rfl) (by kernel_rfl) (by kernel_rfl) (by kernel_rfl) rfl hd3;intro t ht o;unfold vE tabsP at ht;simp only [List.mem_cons,List.not_mem_nil,or_false,List.cons_append,List.nil_append] at ht
 rcases ht with rfl | rfl | rfl | rfl
 ·rw [World.var?_cell hg0 hv0 o,←e0,Array.getElem?_toList]
 ·rw [World.var?_cell hg1 hv1 o,←e1,Array.getElem?_toList]
 ·rw [World.var?_cell hg2 hv2 o,←e2,Array.getElem?_toList]
 ·rw [World.var?_cell hg3 hv3 o,←e3,Array.getElem?_toList]
theorem GK:(vE.all fun t=>t.2.all Value.oneCell')=true:=by kernel_rfl
theorem tabsC_2:BB vE 2=.eptr [cA cS bT] 0 0:=by kernel_rfl
theorem tabsC_1:BB vE 1=.eptr [cA cS eF] 0 0:=by kernel_rfl
theorem tabsC_4:BB vE 4=.eptr [cA (cA cS) cT] 0 0:=by kernel_rfl
theorem tabsC_0:BB vE 0=.eptr [cA aZ.C cG] 0 0:=by kernel_rfl
end Go.Proofs.YtncembphlfbgoaaDoor.Abs
