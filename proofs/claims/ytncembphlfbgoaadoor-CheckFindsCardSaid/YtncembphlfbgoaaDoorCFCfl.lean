/-
 CheckFinds' plain law.
-/
import Derived.Test.YtncembphlfbgoaaDoorCFGMm
import Derived.Test.YtncembphlfbgoaaDoorCFTyp
namespace Go.Proofs.YtncembphlfbgoaaDoor.Abs
open Go.RowKit
set_option linter.unusedVariables false
def Jf (s:cD):List aO->Nat->Int
 | [],_=>-1
 | f::l,i=>if f.gI=s then (i:Int) else Jf s l (i+1)
theorem fnd_or (s:cD):∀(l:List aO) (i:Nat),Jf s l i=-1 ∨ 0<=Jf s l i:=by
 intro l
 induction l with
 | nil=>intro i;exact .inl rfl
 | cons f l ih=>
   intro i;unfold Jf
   split
   ·exact .inr (by omega)
   ·exact ih (i+1)
section
variable {fs:List aO} {s:cD}
theorem Dw {i:Nat} (h:i<fs.length):∃f,fs[i]? = some f/\fs.drop i=f::fs.drop (i+1):=
 ⟨fs[i],List.getElem?_eq_getElem h,List.drop_eq_getElem_cons h⟩
theorem ixf_l1 (hl:fs.length<=16384):∀(k v:Nat),fs.length<v+k->v<=fs.length->bA fs s k (v:Int)=some (if Jf s (fs.drop v) v=-1 then .inl () else .inr (Jf s (fs.drop v) v)):=by
 intro k
 induction k with
 | zero=>intro v h1 h2;omega
 | succ k ih=>
   intro v h1 h2;unfold bA
   by_cases hv:v<fs.length
   ·obtain ⟨f,e,ed⟩:=Dw hv;rw [if_pos (decide_eq_true (by omega)),Dt e,Option.bind_some,ed];unfold lC Jf;rw [Option.bind_some]
    by_cases hx:f.gI=s
    ·rw [if_pos (decide_eq_true hx),if_pos hx,if_neg (by omega)]
    ·rw [if_neg (by simpa using hx),if_neg hx,fQ (by omega) (by omega),show ((v:Int)+1)=((v+1:Nat):Int) by omega];exact ih (v+1) (by omega) (by omega)
   ·rw [if_neg (by rw [decide_eq_true_eq];omega),List.drop_eq_nil_of_le (by omega)];rfl
theorem want_l1 {x:bV × Int × Int} (hl:x.1.aS.length<=16384):∀(k v:Nat) (w:Int),x.1.aS.length<v+k->v<=x.1.aS.length->(w=-1 ∨ 0<=w)->eC x s k w (v:Int)=some (if 0<=w then w else Jf s (x.1.aS.drop v) v):=by
 intro k
 induction k with
 | zero=>intro v w h1 h2;omega
 | succ k ih=>
   intro v w h1 h2 hw;unfold eC
   by_cases hv:v<x.1.aS.length
   ·obtain ⟨f,e,ed⟩:=Dw hv;have hn:((v:Int)+1)=((v+1:Nat):Int):=by omega
    rw [if_pos (decide_eq_true (by omega)),Dt e,Option.bind_some,ed];unfold Jf
    by_cases hx:f.gI=s
    ·rw [if_pos (decide_eq_true hx),Option.bind_some,if_pos hx]
     by_cases hw0:0<=w
     ·rw [if_neg (by simp;omega),Option.bind_some,fQ (by omega) (by omega),hn,ih (v+1) w (by omega) (by omega) hw,if_pos hw0,if_pos hw0]
     ·rw [if_pos (by simp;omega),Option.bind_some,fQ (by omega) (by omega),hn,ih (v+1) (v:Int) (by omega) (by omega) (.inr (by omega)),if_pos (by omega),if_neg hw0]
    ·rw [if_neg (by simpa using hx),Option.bind_some,if_neg (by decide),if_neg hx,Option.bind_some,fQ (by omega) (by omega),hn];exact ih (v+1) w (by omega) (by omega) hw
   ·rw [if_neg (by rw [decide_eq_true_eq];omega),List.drop_eq_nil_of_le (by omega)]
    rcases hw with rfl | hw
    ·rfl
    ·rw [if_pos hw]
theorem all_l2 {x:bV × Int × Int} (hl:x.1.aS.length<=16384):∀(k v a:Nat),x.1.aS.length<v+k->v<=x.1.aS.length->a<=v->eB x k (a:Int) (v:Int)=some ((a:Int)+((rR (x.1.aS.drop v) v).length:Int)):=by
 intro k
 induction k with
 | zero=>intro v a h1 h2;omega
 | succ k ih=>
   intro v a h1 h2 ha;unfold eB
   by_cases hv:v<x.1.aS.length
   ·obtain ⟨f,e,ed⟩:=Dw hv;have hn:((v:Int)+1)=((v+1:Nat):Int):=by omega
    have hn2:((a:Int)+1)=((a+1:Nat):Int):=by omega
    rw [if_pos (decide_eq_true (by omega)),Dt e,Option.bind_some,ed];unfold rR
    by_cases hx:f.eJ=true
    ·rw [if_pos hx,if_pos hx,Option.bind_some,fQ (by omega) (by omega),fQ (by omega) (by omega),hn,hn2,ih (v+1) (a+1) (by omega) (by omega) (by omega)];simp only [List.length_cons]
     congr 1
     omega
    ·rw [if_neg hx,if_neg hx,Option.bind_some,fQ (by omega) (by omega),hn];exact ih (v+1) a (by omega) (by omega) (by omega)
   ·rw [if_neg (by rw [decide_eq_true_eq];omega),List.drop_eq_nil_of_le (by omega)];simp [rR]
end
theorem JE:lP 100000=some true:=by kernel_rfl
theorem FD (s nm:cD) (stop:Int):gV 100000 s nm stop=some true:=by
 unfold gV;rw [JE,Option.bind_some,if_neg (by decide)]
 by_cases hs:(3000:Int)<s.length
 ·rw [if_pos (decide_eq_true hs)]
 rw [if_neg (by simpa using hs)];obtain ⟨r,e,hr⟩:=HY (s:=s) (n:=100000) (by omega) (by omega);rw [e,Option.bind_some]
 by_cases he:r.2.1=0
 ·obtain ⟨c,rk,hc,hp⟩:=hr he;obtain ⟨p,e2,a⟩:=r;simp only at hc he;subst hc;rw [if_neg (by simp [he])];have h64:=hp.n64
  have hF:eU 100000 c.p_ nm=some (max (Jf nm c.p_.aS 0) 0,decide (0<=Jf nm c.p_.aS 0)):=by
   unfold eU cH;have h:=ixf_l1 (fs:=c.p_.aS) (s:=nm) (by omega) 100000 0 (by omega) (by omega);rw [show ((0:Nat):Int)=0 from rfl] at h;rw [h,Option.bind_some,List.drop_zero]
   rcases fnd_or nm c.p_.aS 0 with h1 | h1
   ·rw [if_pos h1,h1];rfl
   ·rw [if_neg (by omega)];rfl
  have hW:=want_l1 (x:=(c.p_,e2,a)) (s:=nm) (by simp only;omega) 100000 0 (-1) (by simp only;omega) (by simp only;omega) (.inl rfl);rw [show ((0:Nat):Int)=0 from rfl,if_neg (by decide),List.drop_zero] at hW;have hA:=all_l2 (x:=(c.p_,e2,a)) (by simp only;omega) 100000 0 0 (by simp only;omega) (by simp only;omega) (by omega);rw [show ((0:Nat):Int)=0 from rfl,List.drop_zero] at hA;simp only at hW hA;rw [hF,Option.bind_some,hW,Option.bind_some,if_neg (by simp),Option.bind_some,if_neg (by simp),hA,Option.bind_some];refine if_pos ?_;unfold EI;simp only [Bool.and_eq_true,decide_eq_true_eq,List.all_eq_true,Bool.or_eq_true,Bool.not_eq_true'];refine ⟨⟨by omega,by omega⟩,fun f hf=>?_⟩;cases hx:f.eJ with
  | false=>exact .inl rfl
  | true=>
    right
    obtain ⟨v1,v2,v3⟩:=hp.co.vl f hf;rw [DP v1 v2 v3 (by omega)];exact decide_eq_true (hp.ex f hf hx)
 ·rw [if_pos (by simpa using he)]
theorem Ji:∃n,∀(s nm:cD) (stop:Int),gV n s nm stop=some true:=⟨100000,FD⟩
end Go.Proofs.YtncembphlfbgoaaDoor.Abs
