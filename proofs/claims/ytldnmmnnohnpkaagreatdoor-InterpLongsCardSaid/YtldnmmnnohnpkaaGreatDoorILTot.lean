/-
 Own helper theorems of no one function: that a model gives something, and what holds of it.
-/
import Derived.Test.YtldnmmnnohnpkaaGreatDoorILS3
import Derived.Test.YtldnmmnnohnpkaaGreatDoorILGMm
import Derived.ProofKit
namespace Go.Proofs.YtldnmmnnohnpkaaGreatDoor.Abs
set_option linter.unusedVariables false
open Go.RowKit
section
variable {α β:Type} {o:Option α} {Q P:α->Prop}
end
theorem zkW {n:Int} (h1:-9223372036854775808<=n) (h2:n<=9223372036854775807):IntKind.i64.wrap n=n:=by
 rw [IntKind.wrap_i64];omega
end Go.Proofs.YtldnmmnnohnpkaaGreatDoor.Abs
namespace Go.Proofs.YtldnmmnnohnpkaaGreatDoor.Abs
set_option linter.unusedVariables false
open Go.RowKit
theorem anchor13:zdY 5000=some true:=by kernel_rfl
end Go.Proofs.YtldnmmnnohnpkaaGreatDoor.Abs
namespace Go.Proofs.YtldnmmnnohnpkaaGreatDoor.Abs
set_option linter.unusedVariables false
open Go.RowKit
def tr (c:Bool):Int:=if c=true then 1 else 0
theorem znp (c:Bool):zfo c=some (tr c):=by cases c <;> rfl
def evW (op:Str) (x y:Int):Option Int:=
 if decide (op=[61,61])=true then some (tr (x == y)) else
 if decide (op=[60])=true then some (tr (decide (x<y))) else zeg op x y
theorem evW_ok {op:Str} {x y v:Int} (h:evW op x y=some v):zeg op x y=some v:=by
 unfold evW at h
 by_cases h1:op=[61,61]
 ·subst h1;rw [if_pos (by decide)] at h
  have:zeg [61,61] x y=(zfo (x == y)).bind fun x=>some x:=by
   unfold zeg;simp only [show ∀(a b:Str),decide (a=b)=(a == b) from fun a b=>(Bool.beq_eq_decide_eq a b).symm];rfl
  rw [this,znp];exact h
 rw [if_neg (by simpa using h1)] at h
 by_cases h2:op=[60]
 ·subst h2;rw [if_pos (by decide)] at h
  have:zeg [60] x y=(zfo (decide (x<y))).bind fun x=>some x:=by
   unfold zeg;simp only [show ∀(a b:Str),decide (a=b)=(a == b) from fun a b=>(Bool.beq_eq_decide_eq a b).symm];rfl
  rw [this,znp];exact h
 rw [if_neg (by simpa using h2)] at h;exact h
def evOp (e:zae) (vs:List Int):Option Int:=
 match vs,e.zax with
 | [x,y],a::_=>
   if (a.zcK == 3)=true then evW e.Op_ x y else
   if decide (e.Op_=[43])=true then some (IntKind.u64.wrap (IntKind.u32.wrap (IntKind.u32.wrap x+IntKind.u32.wrap y))) else none
 | _,_=>none
def evL (f:zae->Option Int):List zae->Option (List Int)
 | []=>some []
 | x::l=>(f x).bind fun v=>(evL f l).bind fun vs=>some (v::vs)
def evE (ws:List Int):Nat->zae->Option Int
 | 0,_=>none
 | n+1,e=>
   if decide (e.Op_=[110,117,109])=true then some (IntKind.u64.wrap e.N_) else
   if decide (e.Op_=[118,97,114])=true then idxL ws e.Var_ else
   if decide (e.Op_=[105,110,100,101,120])=true then none else
   if decide (e.zax.length<10)=true then
    (evL (evE ws n) e.zax).bind fun vs=>
    (zhx e.Op_ vs).bind fun b=>if b.2=true then some b.1 else evOp e vs
   else none
def goE (p:zas) (a b:Int):Option Int:=
 match p.zbp with
 | [f]=>match f.zbg,f.zdB with
   | [v,w],[s]=>match s.zax with
     | [e]=>if (v.zbA == 3 && w.zbA == 3 && f.zbd == 2 && decide (s.Op_=[114,101,116,117,114,110]))=true then evE [a,b] 50 e else none
     | _=>none
   | _,_=>none
 | _=>none
def goS (src:Str) (a b:Int):Option Int:=(zhf 5000 src).bind fun r=>if r.2.1=0 then goE r.1 a b else none
def src1:Str:=[102,110,32,102,40,120,58,32,117,54,52,44,32,121,58,32,117,54,52,41,32,45,62,32,117,54,52,32,123,32,114,101,116,117,114,110,32,120,32,43,32,121,32,45,32,121,59,32,125]
def src2:Str:=[102,110,32,102,40,120,58,32,117,54,52,44,32,121,58,32,117,54,52,41,32,45,62,32,117,54,52,32,123,32,114,101,116,117,114,110,32,108,111,110,103,40,104,105,40,120,41,41,32,60,60,32,51,50,32,124,32,108,111,110,103,40,108,111,40,120,41,41,59,32,125]
def src3:Str:=[102,110,32,102,40,120,58,32,117,54,52,44,32,121,58,32,117,54,52,41,32,45,62,32,117,54,52,32,123,32,114,101,116,117,114,110,32,40,120,32,60,60,60,32,51,55,41,32,60,60,60,32,50,55,59,32,125]
def src4:Str:=[102,110,32,102,40,120,58,32,117,54,52,44,32,121,58,32,117,54,52,41,32,45,62,32,117,54,52,32,123,32,114,101,116,117,114,110,32,108,111,110,103,40,40,120,32,60,32,121,41,32,43,32,40,121,32,60,32,120,41,32,43,32,40,120,32,61,61,32,121,41,41,59,32,125]
def src5:Str:=[102,110,32,102,40,120,58,32,117,54,52,44,32,121,58,32,117,54,52,41,32,45,62,32,117,54,52,32,123,32,114,101,116,117,114,110,32,119,105,100,101,40,108,111,40,120,41,44,32,108,111,40,121,41,41,32,45,32,119,105,100,101,40,108,111,40,121,41,44,32,108,111,40,120,41,41,32,43,32,115,101,108,101,99,116,40,49,44,32,120,44,32,121,41,59,32,125]
theorem go1 (a b:Int):goS src1 a b=some (IntKind.u64.wrap (IntKind.u64.wrap (a+b) - b)):=by kernel_rfl
theorem go2 (a b:Int):goS src2 a b=some (orK .u64 (shlK .u64 (shrK .u64 a 32) 32) (andK .u64 a 4294967295)):=by kernel_rfl
theorem go3 (a b:Int):goS src3 a b=(zbO a 37).bind fun x=>(zbO x 27).bind fun y=>some y:=by kernel_rfl
theorem go4 (a b:Int):goS src4 a b=some (IntKind.u64.wrap (IntKind.u32.wrap (IntKind.u32.wrap (IntKind.u64.wrap (IntKind.u32.wrap (IntKind.u32.wrap (tr (decide (a<b)))+IntKind.u32.wrap (tr (decide (b<a))))))+IntKind.u32.wrap (tr (a == b))))):=by kernel_rfl
theorem go5 (a b:Int):goS src5 a b=some (IntKind.u64.wrap (IntKind.u64.wrap (IntKind.u64.wrap (andK .u64 a 4294967295*andK .u64 b 4294967295) - IntKind.u64.wrap (andK .u64 b 4294967295*andK .u64 a 4294967295))+a)):=by kernel_rfl
end Go.Proofs.YtldnmmnnohnpkaaGreatDoor.Abs
namespace Go.Proofs.YtldnmmnnohnpkaaGreatDoor.Abs
set_option linter.unusedVariables false
open Go.RowKit
theorem znJ (n:Nat):zbl (n+1)=zcW (zd7 n) (zbl n) n:=by
 show (zbZ (n+1)).1=_;rw [zbZ];rfl
theorem zo3 {f:zae->Option Int}:∀ {l:List zae} {vs:List Int},evL f l=some vs->vs.length=l.length
 | [],vs,h=>by cases h;rfl
 | x::l,vs,h=>by
   obtain ⟨v,h1,h⟩:=bind_some h;obtain ⟨ws,h2,h⟩:=bind_some h;cases h;simp [zo3 h2]
theorem zo4 {f:zae->Option Int}:∀ {l:List zae} {vs:List Int},evL f l=some vs->∀(i:Nat) (x:zae),l[i]? = some x->∃v,vs[i]? = some v/\f x=some v
 | [],vs,h,i,x,hx=>by simp at hx
 | y::l,vs,h,i,x,hx=>by
   obtain ⟨v,h1,h⟩:=bind_some h;obtain ⟨ws,h2,h⟩:=bind_some h;cases h;cases i with
   | zero=>simp only [List.getElem?_cons_zero,Option.some.injEq] at hx;subst hx;exact ⟨v,rfl,h1⟩
   | succ i=>simpa using zo4 h2 i x (by simpa using hx)
theorem znK {rc:zai->zal->List (List Int)->zae->Option (Int × zai)} {f:zae->Option Int} {e:zae} {fr:zal} {hs:List (List Int)} {r:zai}
  (hr:zaV r=some false) (hf:∀x ∈ e.zax,∀v,f x=some v->rc r fr hs x=some (v,r)) {vs:List Int} (h:evL f e.zax=some vs) (hl:e.zax.length<10) :
  ∀(c j:Nat),j<=e.zax.length->e.zax.length<j+c->zb8 rc e fr hs c (vs.take j) (j:Int) r=some (.inl (vs,r)):=by
 intro c
 induction c with
 | zero=>intro j h1 h2;omega
 | succ c ih=>
   intro j h1 h2;have hvl:=zo3 h;unfold zb8
   by_cases hj:j<e.zax.length
   ·rw [if_pos (decide_eq_true (by omega))];have hx:e.zax[j]? = some e.zax[j]:=List.getElem?_eq_getElem hj;obtain ⟨v,g1,g2⟩:=zo4 h j _ hx
    have hi:idxL e.zax (j:Int)=some e.zax[j]:=by
     unfold idxL;rw [if_pos (by omega),Int.toNat_natCast];exact hx
    rw [hi,Option.bind_some,hf _ (List.getElem_mem _) v g2];simp only [Option.bind_some,hr,Bool.false_eq_true,if_false];rw [zl0 (by simp only [List.length_take,List.length_singleton];omega),zkW (by omega) (by omega)];have ht:vs.take j++[v]=vs.take (j+1):=by rw [List.take_add_one,g1];rfl
    rw [ht];exact ih (j+1) (by omega) (by omega)
   ·rw [if_neg (by rw [decide_eq_true_eq];omega)];rw [List.take_of_length_le (by omega)]
theorem znY {e:zae} {vs:List Int} {v:Int} (h:evOp e vs=some v) (r:zai) (n:Nat) (hn:20<=n):zcY n r e vs=some (v,r):=by
 unfold evOp at h
 split at h
 ·rename_i x y a l hl;unfold zcY;rw [if_pos (decide_eq_true (by rw [hl];simp only [List.length_cons];omega))];rw [hl];simp only [show idxL (a::l) 0=some a from rfl,Option.bind_some];rw [if_pos (decide_eq_true (by show (1:Int)<((2:Nat):Int);omega))];simp only [show idxL [x,y] 1=some y from rfl,show idxL [x,y] 0=some x from rfl,Option.bind_some]
  by_cases hw:(a.zcK == 3)=true
  ·rw [if_pos hw] at h ⊢;rw [evW_ok h];rfl
  ·rw [if_neg hw] at h ⊢
   by_cases hp:e.Op_=[43]
   ·rw [if_pos (decide_eq_true hp)] at h;rw [hp];simp only [Option.some.injEq] at h;subst h;obtain ⟨m,rfl⟩:∃m,n=m+20:=⟨n - 20,by omega⟩;simp only [show decide ([43]=([47]:Str))=false from rfl,show decide ([43]=([37]:Str))=false from rfl,Bool.false_eq_true,if_false,Option.bind_some];have h1:zha (m+20) [43]=some 13:=rfl;have h2:zcd [x,y] (m+20) 0 (zaF.mk 13 0 [])=some (zaF.mk 13 0 [zaF.mk 1 (IntKind.u32.wrap x) [],zaF.mk 1 (IntKind.u32.wrap y) []]):=rfl;have h3:zg1 (m+20) (zaF.mk 13 0 [zaF.mk 1 (IntKind.u32.wrap x) [],zaF.mk 1 (IntKind.u32.wrap y) []]) []=some (IntKind.u32.wrap (IntKind.u32.wrap x+IntKind.u32.wrap y),true):=rfl;rw [h1,Option.bind_some,h2,Option.bind_some,h3];rfl
   ·rw [if_neg (by simpa using hp)] at h;cases h
 ·cases h
theorem evE_ok (ws:List Int) (fr:zal) (hs:List (List Int)) (r:zai) (hfr:fr.za2=ws) (hr:zaV r=some false):∀(n:Nat) (e:zae) (v:Int),evE ws n e=some v->∀N,n+20<=N->zbl N r fr hs e=some (v,r)
 | 0,e,v,h,N,hN=>by cases h
 | n+1,e,v,h,N,hN=>by
   obtain ⟨M,rfl⟩:∃M,N=M+1:=⟨N - 1,by omega⟩;rw [znJ];unfold evE at h;unfold zcW
   by_cases h1:e.Op_=[110,117,109]
   ·rw [if_pos (decide_eq_true h1)] at h ⊢;cases h;rfl
   rw [if_neg (by simpa using h1)] at h ⊢
   by_cases h2:e.Op_=[118,97,114]
   ·rw [if_pos (decide_eq_true h2)] at h ⊢;rw [hfr,h];rfl
   rw [if_neg (by simpa using h2)] at h ⊢
   by_cases h3:e.Op_=[105,110,100,101,120]
   ·rw [if_pos (decide_eq_true h3)] at h;cases h
   rw [if_neg (by simpa using h3)] at h ⊢
   by_cases h4:e.zax.length<10
   ·rw [if_pos (decide_eq_true h4)] at h;obtain ⟨vs,g1,h⟩:=bind_some h;obtain ⟨b,g2,h⟩:=bind_some h;have:=znK (rc:=zbl M) (fr:=fr) (hs:=hs) hr (fun x hx v hv=>evE_ok ws fr hs r hfr hr n x v hv M (by omega)) g1 h4 M 0 (by omega) (by omega);rw [List.take_zero] at this;rw [show ((0:Nat):Int)=0 from rfl] at this;rw [this];simp only [Option.bind_some,Sum.elim_inl,g2]
    by_cases hb:b.2=true
    ·rw [if_pos hb] at h ⊢;cases h;rfl
    ·rw [if_neg hb] at h ⊢;rw [znY h r M (by omega)];rfl
   ·rw [if_neg (by simpa using h4)] at h;cases h
end Go.Proofs.YtldnmmnnohnpkaaGreatDoor.Abs
namespace Go.Proofs.YtldnmmnnohnpkaaGreatDoor.Abs
set_option linter.unusedVariables false
open Go.RowKit
theorem fits2 {f:zaI} {v1 v2:zaD} {a b:Int} (hv:f.zbg=[v1,v2]) (k1:v1.zbA=3) (k2:v2.zbA=3) (k3:f.zbd=2):zhb 5000 f ⟨[a,b],[]⟩=some true:=by
 obtain ⟨n,x,r,p,vs,bd⟩:=f;obtain ⟨n1,q1,s1⟩:=v1;obtain ⟨n2,q2,s2⟩:=v2;simp only at hv k1 k2 k3;subst hv k1 k2 k3;rfl
theorem run_ok {p:zas} {a b v:Int} (h:goE p a b=some v):zgi 5000 p 0 ⟨[a,b],[]⟩ 1000=some (⟨0,v,[],[]⟩,0):=by
 unfold goE at h
 split at h
 ·rename_i f hf
  split at h
  ·rename_i v1 v2 s hv hb
   split at h
   ·rename_i e he
    split at h
    ·rename_i hc;simp only [Bool.and_eq_true,beq_iff_eq,decide_eq_true_eq] at hc;obtain ⟨⟨⟨k1,k2⟩,k3⟩,k4⟩:=hc
     have h1:zkB f 0=some (⟨f,[0,0],[-1,-1],0⟩,[]):=by
      unfold zkB;rw [hv,k3,zl0 (by simp)];rfl
     have h2:zhb 5000 f ⟨[a,b],[]⟩=some true:=fits2 hv k1 k2 k3
     have h3:zjm ⟨[a,b],[]⟩ (f.zbg.take f.zbd.toNat) 0 0 0 ⟨f,[0,0],[-1,-1],0⟩ []=some (⟨f,[a,b],[-1,-1],0⟩,[]):=by
      rw [hv,k3];simp only [show ([v1,v2]:List zaD).take (2:Int).toNat=[v1,v2] from rfl,zjm,k1,k2];rfl
     have h5:∀r:zai,r.zcI=0->r.e_=0->zaV r=some false:=by
      intro r g1 g2;unfold zaV;rw [g1,g2];rfl
     have h4:zd8 5000 ⟨p,1000,0,0,[]⟩ ⟨f,[a,b],[-1,-1],0⟩ [] f.zdB=some (⟨p,999,0,0,[]⟩,⟨f,[a,b],[-1,-1],v⟩,[]):=by
      show (zaU (4999+1)).1 _ _ _ _=_;rw [zaU];show zcZ _ _ _ _ _ _=_;unfold zcZ;rw [hb]
      have hst:(zaU 4999).2.1 ⟨p,999,0,0,[]⟩ ⟨f,[a,b],[-1,-1],0⟩ [] s=some (⟨p,999,0,0,[]⟩,⟨f,[a,b],[-1,-1],v⟩,[]):=by
       show (zaU (4998+1)).2.1 _ _ _ _=_;rw [zaU];show zcm _ _ _ _ _ _ _ _=_;unfold zcm;rw [k4,he]
       simp only [show decide ([114,101,116,117,114,110]=([108,101,116]:Str))=false from rfl,show decide ([114,101,116,117,114,110]=([118,97,114]:Str))=false from rfl,show decide ([114,101,116,117,114,110]=([115,101,116]:Str))=false from rfl,show decide ([114,101,116,117,114,110]=([97,114,114]:Str))=false from rfl,
        show decide ([114,101,116,117,114,110]=([112,117,116]:Str))=false from rfl,show decide ([114,101,116,117,114,110]=([99,97,108,108]:Str))=false from rfl,show decide ([114,101,116,117,114,110]=([105,102]:Str))=false from rfl,show decide ([114,101,116,117,114,110]=([102,111,114]:Str))=false from rfl,Bool.false_eq_true,if_false,show idxL [e] 0=some e from rfl,Option.bind_some]
       rw [evE_ok [a,b] ⟨f,[a,b],[-1,-1],0⟩ [] ⟨p,999,0,0,[]⟩ rfl (h5 _ rfl rfl) 50 e v h 4998 (by omega)];rfl
      have hl:zbz (zaU 4999).2.1 [s] 4999 0 ⟨p,1000,0,0,[]⟩ ⟨f,[a,b],[-1,-1],0⟩ []=some (.inl (⟨p,999,0,0,[]⟩,⟨f,[a,b],[-1,-1],v⟩,[])):=by
       show zbz _ _ (4998+1) _ _ _ _=_;rw [zbz,if_pos (by rfl)];simp only [show idxL [s] 0=some s from rfl,Option.bind_some,h5 ⟨p,1000,0,0,[]⟩ rfl rfl,Bool.false_eq_true,if_false];rw [show zdL ⟨p,1000,0,0,[]⟩=some ⟨p,999,0,0,[]⟩ from rfl];simp only [Option.bind_some,h5 ⟨p,999,0,0,[]⟩ rfl rfl,Bool.not_false,if_true,hst,Sum.elim_inl];show zbz _ _ (4997+1) 1 _ _ _=_;rw [zbz];rfl
      rw [hl];rfl
     unfold zgi;rw [hf,if_neg (by simp)];simp only [show idxL [f] 0=some f from rfl,Option.bind_some,h1,h2,Bool.true_eq_false,if_false,h3,h4,ne_eq,not_true];unfold zkA;rw [zl0]
     ·simp only [hv,k3,show ([v1,v2]:List zaD).take (2:Int).toNat=[v1,v2] from rfl,outL,k1,k2];rfl
     ·refine ⟨fun k hk=>?_,by rw [k3];decide,by rw [k3,hv];simp,by rw [hv];simp⟩;simp only [List.mem_cons,List.not_mem_nil,or_false,or_self] at hk;subst hk;decide
    ·cases h
   ·cases h
  ·cases h
 ·cases h
theorem one_ok {s:Str} {a b v:Int} (hs:s.length<=1000) (h:goS s a b=some v):za8 5000 s [a,b]=some (v,true):=by
 unfold goS at h;obtain ⟨r,h1,h⟩:=bind_some h
 split at h
 ·rename_i h0;unfold za8;rw [zl0 (by omega),h1,Option.bind_some,h0,if_neg (by decide),run_ok h];rfl
 ·cases h
theorem w64 {z:Int} (h:0<=z) (h':z<18446744073709551616):IntKind.u64.wrap z=z:=by
 simp only [IntKind.wrap,IntKind.bits,IntKind.signed,Bool.false_and,Bool.false_eq_true,if_false];omega
theorem wrm {z:Int}:IntKind.u64.wrap z=z % 18446744073709551616:=by
 simp only [IntKind.wrap,IntKind.bits,IntKind.signed,Bool.false_and,Bool.false_eq_true,if_false];rfl
theorem zoN {p q i:Nat} (hq:q<2 ^ i) (h:p*2 ^ i+q<18446744073709551616):orK .u64 ((p*2 ^ i:Nat):Int) (q:Int)=((p*2 ^ i+q:Nat):Int):=by
 show IntKind.u64.wrap ((BitVec.ofInt 64 ((p*2 ^ i:Nat):Int) ||| BitVec.ofInt 64 (q:Int)).toNat:Int)=_;rw [BitVec.ofInt_natCast,BitVec.ofInt_natCast,BitVec.toNat_or,BitVec.toNat_ofNat,BitVec.toNat_ofNat,Nat.mod_eq_of_lt (by omega),Nat.mod_eq_of_lt (by omega),Nat.mul_comm p,←Nat.two_pow_add_eq_or_of_lt hq];exact w64 (by omega) (by rw [Nat.mul_comm] at h;omega)
theorem zmZ {a:Int} (h0:0<=a) {i:Int}:shlK .u64 a i=(a*2 ^ (min i.toNat 64)) % 18446744073709551616:=wrm
theorem zmY {a:Int} (h0:0<=a) {i:Int}:shrK .u64 a i=a / 2 ^ (min i.toNat 64):=by
 show a.fdiv _=_;exact Int.fdiv_eq_ediv_of_nonneg _ (Int.pow_nonneg (by decide))
theorem rot {a:Int} (h0:0<=a) (h1:a<18446744073709551616):((zbO a 37).bind fun x=>(zbO x 27).bind fun y=>some y)=some a:=by
 obtain ⟨m,rfl⟩:∃m:Nat,a=(m:Int):=⟨a.toNat,by omega⟩;have e1:zbO (m:Int) 37=some (orK .u64 (shlK .u64 (m:Int) 37) (shrK .u64 (m:Int) 27)):=rfl
 have e2:shlK .u64 (m:Int) 37=((m % 2 ^ 27*2 ^ 37:Nat):Int):=by
  rw [zmZ h0,show min (37:Int).toNat 64=37 from rfl];omega
 have e3:shrK .u64 (m:Int) 27=((m / 2 ^ 27:Nat):Int):=by
  rw [zmY h0,show min (27:Int).toNat 64=27 from rfl];omega
 rw [e1,e2,e3,zoN (by omega) (by omega),Option.bind_some];have e4:zbO ((m % 2 ^ 27*2 ^ 37+m / 2 ^ 27:Nat):Int) 27=some (orK .u64 (shlK .u64 ((m % 2 ^ 27*2 ^ 37+m / 2 ^ 27:Nat):Int) 27) (shrK .u64 ((m % 2 ^ 27*2 ^ 37+m / 2 ^ 27:Nat):Int) 37)):=rfl
 have e5:shlK .u64 ((m % 2 ^ 27*2 ^ 37+m / 2 ^ 27:Nat):Int) 27=((m / 2 ^ 27*2 ^ 27:Nat):Int):=by
  rw [zmZ (by omega),show min (27:Int).toNat 64=27 from rfl];omega
 have e6:shrK .u64 ((m % 2 ^ 27*2 ^ 37+m / 2 ^ 27:Nat):Int) 37=((m % 2 ^ 27:Nat):Int):=by
  rw [zmY (by omega),show min (37:Int).toNat 64=37 from rfl];omega
 rw [e4,e5,e6,zoN (by omega) (by omega),Option.bind_some]
 congr 1;omega
theorem and_mod {a:Int} (h0:0<=a) (h1:a<18446744073709551616):andK .u64 a 4294967295=a % 4294967296:=by
 obtain ⟨m,rfl⟩:∃m:Nat,a=(m:Int):=⟨a.toNat,by omega⟩;show IntKind.u64.wrap ((BitVec.ofInt 64 (m:Int) &&& BitVec.ofInt 64 ((4294967295:Nat):Int)).toNat:Int)=_;rw [BitVec.ofInt_natCast,BitVec.ofInt_natCast,BitVec.toNat_and,BitVec.toNat_ofNat,BitVec.toNat_ofNat,Nat.mod_eq_of_lt (by omega),show 4294967295 % 2 ^ 64=2 ^ 32 - 1 from rfl,Nat.and_two_pow_sub_one_eq_mod,w64 (by omega) (by omega)];omega
theorem hilo {a:Int} (h0:0<=a) (h1:a<18446744073709551616):orK .u64 (shlK .u64 (shrK .u64 a 32) 32) (andK .u64 a 4294967295)=a:=by
 rw [and_mod h0 h1,zmY h0,show min (32:Int).toNat 64=32 from rfl,zmZ (by omega),show min (32:Int).toNat 64=32 from rfl];obtain ⟨m,rfl⟩:∃m:Nat,a=(m:Int):=⟨a.toNat,by omega⟩;have e1:(m:Int) / 2 ^ 32*2 ^ 32 % 18446744073709551616=((m / 2 ^ 32*2 ^ 32:Nat):Int):=by omega
 have e2:(m:Int) % 4294967296=((m % 2 ^ 32:Nat):Int):=by omega
 rw [e1,e2,zoN (by omega) (by omega)];omega
theorem sum1 (a b:Int):IntKind.u64.wrap (IntKind.u32.wrap (IntKind.u32.wrap (IntKind.u64.wrap (IntKind.u32.wrap (IntKind.u32.wrap (tr (decide (a<b)))+IntKind.u32.wrap (tr (decide (b<a))))))+IntKind.u32.wrap (tr (a == b))))=1:=by
 rcases Int.lt_trichotomy a b with h | h | h
 ·rw [decide_eq_true h,decide_eq_false (show ¬ b<a by omega),show (a == b)=false by simp;omega];rfl
 ·subst h;rw [decide_eq_false (show ¬ a<a by omega),show (a == a)=true by simp];rfl
 ·rw [decide_eq_true h,decide_eq_false (show ¬ a<b by omega),show (a == b)=false by simp;omega];rfl
theorem longs_ok (a b:Int) (ha:(Lit.int .u64 a).wf=true) (hb:(Lit.int .u64 b).wf=true):zcl 5000 a b=some true:=by
 have ha':0<=a/\a<18446744073709551616:=by
  simp [Lit.wf,IntKind.min,IntKind.max,IntKind.signed,IntKind.bits] at ha
  omega
 have hb':0<=b/\b<18446744073709551616:=by
  simp [Lit.wf,IntKind.min,IntKind.max,IntKind.signed,IntKind.bits] at hb
  omega
 have o1:za8 5000 src1 [a,b]=some (a,true):=by
  refine one_ok (by decide) ((go1 a b).trans ?_);rw [wrm,wrm];congr 1;omega
 have o2:za8 5000 src2 [a,b]=some (a,true):=one_ok (by decide) ((go2 a b).trans (by rw [hilo ha'.1 ha'.2]));have o3:za8 5000 src3 [a,b]=some (a,true):=one_ok (by decide) ((go3 a b).trans (rot ha'.1 ha'.2));have o4:za8 5000 src4 [a,b]=some (1,true):=one_ok (by decide) ((go4 a b).trans (by rw [sum1]))
 have o5:za8 5000 src5 [a,b]=some (a,true):=by
  refine one_ok (by decide) ((go5 a b).trans ?_);rw [Int.mul_comm (andK .u64 b _),Int.sub_self,wrm,wrm];congr 1;omega
 unfold zcl;rw [anchor13,Option.bind_some,if_neg (by decide)];show (za8 5000 src1 [a,b]).bind _=_;rw [o1,Option.bind_some];show (za8 5000 src2 [a,b]).bind _=_;rw [o2,Option.bind_some];show (za8 5000 src3 [a,b]).bind _=_;rw [o3,Option.bind_some];show (za8 5000 src4 [a,b]).bind _=_;rw [o4,Option.bind_some];show (za8 5000 src5 [a,b]).bind _=_;rw [o5,Option.bind_some];simp
theorem zly:∃n,∀a b:Int,(Lit.int .u64 a).wf=true->(Lit.int .u64 b).wf=true->zcl n a b=some true:=⟨_,longs_ok⟩
end Go.Proofs.YtldnmmnnohnpkaaGreatDoor.Abs
