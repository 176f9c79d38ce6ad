import Derived.Test.YtknbgnpeiohifaaGreatDoorGA16
set_option linter.all false
namespace Go.Proofs.YtknbgnpeiohifaaGreatDoor.Abs
open Go.RowKit
inductive UD where
 | int (k:IntKind) | str | sl (e:TypeId) | ar (n:Nat) (e:TypeId) | st | oth | none_
def YX:Option TypeDesc->UD
 | some (.int k)=>.int k
 | some .string=>.str
 | some (.slice e)=>.sl e
 | some (.array n e)=>.ar n e
 | some (.struct _)=>.st
 | some _=>.oth
 | none=>.none_
def ud (P:Program) (T:TypeId):UD:=YX (P.underlying T)
section
variable {P:Program} {T:TypeId} {C:V->Prop} {CM:V->M->Prop} {Cm:M->Prop} {m:M} {id:Pa} {off n s:Nat} {k:IntKind} {rows rows2:List (List V)} {o:NV} {i:Int} {cs vs:List V} {v:V}
def Ou:UD->V->(V->Prop)->Prop
 | .str,.lit (.string s),C=>C (.lit (.int .i64 s.size))
 | .sl _,.list _ rows,C=>C (.lit (.int .i64 rows.length))
 | .sl _,.arr _ _ len _,C=>C (.lit (.int .i64 len))
 | .sl _,.vec _ _ len,C=>C (.lit (.int .i64 len))
 | .sl _,.nilv,C=>C (.lit (.int .i64 0))
 | .ar n _,_,C=>C (.lit (.int .i64 n))
 | _,_,_=>False
@[go_sem] theorem slen_u:PQ P T v C=Ou (ud P T) v C:=by
 unfold PQ ud;cases P.underlying T with
 | none=>rfl
 | some d=>cases d <;> first | rfl | (cases v <;> first | rfl | (rename_i x;cases x <;> rfl))
@[go_sem] theorem slenU_s {b:ByteArray}:Ou .str (.lit (.string b)) C=C (.lit (.int .i64 b.size)):=rI rfl
@[go_sem] theorem slenU_l {e:TypeId}:Ou (.sl e) (.list o rows) C=C (.lit (.int .i64 rows.length)):=rI rfl
@[go_sem] theorem slenU_r {e:TypeId} {len cap:Nat}:Ou (.sl e) (.arr id off len cap) C=C (.lit (.int .i64 len)):=rI rfl
def uC (P:Program):UD->V->V->(V->Prop)->Prop
 | .sl e,.list _ rows,.lit (.int _ n),C=>(match cC P e with | some s=>0<=n/\n<rows.length/\(∀r ∈ rows,r.length=s)/\C (.eptr rows n.toNat 0) | none=>False)
 | .sl e,.arr id off len _,.lit (.int _ n),C=>(match cC P e with | some s=>0<=n/\n<len/\C (.ptr id (off+n.toNat*s)) | none=>False)
 | .ar len e,.ptr id off,.lit (.int _ n),C=>(match cC P e with | some s=>0<=n/\n<len/\C (.ptr id (off+n.toNat*s)) | none=>False)
 | .ar len e,.eptr rows i off,.lit (.int _ n),C=>(match cC P e with | some s=>0<=n/\n<len/\C (.eptr rows i (off+n.toNat*s)) | none=>False)
 | .sl e,.vec id sz len,.lit (.int _ n),C=>(match cC P e with | some s=>sz=s/\0<=n/\n<len/\C (.pp id (n.toNat*s)) | none=>False)
 | .ar len e,.pp id off,.lit (.int _ n),C=>(match cC P e with | some s=>0<=n/\n<len/\C (.pp id (off+n.toNat*s)) | none=>False)
 | _,_,_,_=>False
@[go_sem] theorem sindexA_u {ix:V}:Cd P T v ix C=uC P (ud P T) v ix C:=by
 unfold Cd ud;cases P.underlying T with
 | none=>rfl
 | some d=>cases d <;> first | rfl | (cases v <;> first | rfl | (cases ix <;> first | rfl | (rename_i x;cases x <;> rfl)))
def ixL:Option Nat->List (List V)->Int->(V->Prop)->Prop
 | some s,rows,n,C=>0<=n/\n<rows.length/\(∀r ∈ rows,r.length=s)/\C (.eptr rows n.toNat 0)
 | none,_,_,_=>False
def ixP:Option Nat->Pa->Nat->Nat->Int->(V->Prop)->Prop
 | some s,id,off,len,n,C=>0<=n/\n<len/\C (.ptr id (off+n.toNat*s))
 | none,_,_,_,_,_=>False
def ixE:Option Nat->List (List V)->Nat->Nat->Nat->Int->(V->Prop)->Prop
 | some s,rows,i,off,len,n,C=>0<=n/\n<len/\C (.eptr rows i (off+n.toNat*s))
 | none,_,_,_,_,_,_=>False
@[go_sem] theorem sindexAU_l {e:TypeId}:uC P (.sl e) (.list o rows) (.lit (.int k i)) C=ixL (cC P e) rows i C:=by
 simp only [uC];cases cC P e <;> rfl
@[go_sem] theorem sindexAU_r {e:TypeId} {len cap:Nat}:uC P (.sl e) (.arr id off len cap) (.lit (.int k i)) C=ixP (cC P e) id off len i C:=by
 simp only [uC];cases cC P e <;> rfl
@[go_sem] theorem sindexAU_e {e:TypeId} {len j:Nat}:uC P (.ar len e) (.eptr rows j off) (.lit (.int k i)) C=ixE (cC P e) rows j off len i C:=by
 simp only [uC];cases cC P e <;> rfl
def ixV:Option Nat->Pa->Nat->Nat->Int->(V->Prop)->Prop
 | some s,id,sz,len,n,C=>sz=s/\0<=n/\n<len/\C (.pp id (n.toNat*s))
 | none,_,_,_,_,_=>False
@[go_sem] theorem UI {e:TypeId} {sz len:Nat}:uC P (.sl e) (.vec id sz len) (.lit (.int k i)) C=ixV (cC P e) id sz len i C:=by
 simp only [uC];cases cC P e <;> rfl
@[go_sem] theorem zaq {sz len:Nat}:ixV (some s) id sz len i C=(sz=s/\0<=i/\i<len/\C (.pp id (i.toNat*s))):=rI rfl
@[go_sem] theorem ixL_some:ixL (some s) rows i C=(0<=i/\i<rows.length/\(∀r ∈ rows,r.length=s)/\C (.eptr rows i.toNat 0)):=rI rfl
@[go_sem] theorem ixP_some {len:Nat}:ixP (some s) id off len i C=(0<=i/\i<len/\C (.ptr id (off+i.toNat*s))):=rI rfl
@[go_sem] theorem ixE_some {len j:Nat}:ixE (some s) rows j off len i C=(0<=i/\i<len/\C (.eptr rows j (off+i.toNat*s))):=rI rfl
def Rv:Option Bool->Option Nat->List V->Nat->(V->Prop)->Prop
 | some true,some n,cs,off,C=>C (.agg ((cs.drop off).take n))
 | some false,_,cs,off,C=>(match cs.drop off with | u::_=>C u | []=>False)
 | _,_,_,_,_=>False
def hd (cs:List V) (C:V->Prop):Prop:=match cs with | u::_=>C u | []=>False
@[go_sem] theorem hd_cons {u:V}:hd (u::cs) C=C u:=rI rfl
@[go_sem] theorem spart_u:Jf P T cs off C=Rv (oC P T) (cC P T) cs off C:=by
 unfold Jf Rv;cases oC P T with
 | none=>rfl
 | some b=>
   cases b with
   | true=>cases cC P T <;> rfl
   | false=>
     simp only;rw [←xdx];cases cs.drop off <;> rfl
@[go_sem] theorem spartU_t:Rv (some true) (some n) cs off C=C (.agg ((cs.drop off).take n)):=rI rfl
@[go_sem] theorem spartU_f {z:Option Nat}:Rv (some false) z cs off C=hd (cs.drop off) C:=rI rfl
def Lz (P:Program):UD->V->V->(V->Prop)->Prop
 | .ar len e,.agg cs,.lit (.int _ n),C=>(match cC P e with | some s=>0<=n/\n<len/\Jf P e cs (n.toNat*s) C | none=>False)
 | .str,.lit (.string b),.lit (.int _ n),C=>0<=n/\∃h:n.toNat<b.size,C (.lit (.int .u8 (b[n.toNat]).toNat))
 | _,_,_,_=>False
@[go_sem] theorem sindex_u {ix:V}:FN P T v ix C=Lz P (ud P T) v ix C:=by
 unfold FN ud;cases P.underlying T with
 | none=>rfl
 | some d=>
   cases d with
   | string=>
     cases v with
     | lit a=>cases a <;> first | rfl | (cases ix with
       | lit x=>cases x <;> rfl
       | _=>rfl)
     | _=>rfl
   | array n e=>
     cases v with
     | agg cs=>cases ix with
       | lit x=>cases x <;> rfl
       | _=>rfl
     | _=>rfl
   | _=>rfl
@[go_sem] theorem Xh {b:ByteArray}:Lz P .str (.lit (.string b)) (.lit (.int k i)) C=(0<=i/\∃h:i.toNat<b.size,C (.lit (.int .u8 (b[i.toNat]).toNat))):=rI rfl
def ixG (P:Program) (e:TypeId):Option Nat->List V->Nat->Int->(V->Prop)->Prop
 | some s,cs,len,n,C=>0<=n/\n<len/\Jf P e cs (n.toNat*s) C
 | none,_,_,_,_=>False
@[go_sem] theorem sindexU_a {e:TypeId} {len:Nat}:Lz P (.ar len e) (.agg cs) (.lit (.int k i)) C=ixG P e (cC P e) cs len i C:=by
 simp only [Lz];cases cC P e <;> rfl
@[go_sem] theorem ixG_some {e:TypeId} {len:Nat}:ixG P e (some s) cs len i C=(0<=i/\i<len/\Jf P e cs (i.toNat*s) C):=rI rfl
def zaB:Option Nat->V->(V->Prop)->Prop
 | some fo,.ptr id off,C=>C (.ptr id (off+fo))
 | some fo,.eptr rows i off,C=>C (.eptr rows i (off+fo))
 | some fo,.pp id off,C=>C (.pp id (off+fo))
 | _,_,_=>False
@[go_sem] theorem sfieldA_u {f:Nat}:Ce P T f v C=zaB (iD P T f) v C:=by
 unfold Ce zaB;cases iD P T f with
 | none=>rfl
 | some fo=>cases v <;> rfl
@[go_sem] theorem fldA_p {fo:Nat}:zaB (some fo) (.ptr id off) C=C (.ptr id (off+fo)):=rI rfl
@[go_sem] theorem fldA_q {fo:Nat}:zaB (some fo) (.pp id off) C=C (.pp id (off+fo)):=rI rfl
@[go_sem] theorem fldA_e {fo j:Nat}:zaB (some fo) (.eptr rows j off) C=C (.eptr rows j (off+fo)):=rI rfl
def fdT (P:Program) (T:TypeId) (f:Nat):Option (TypeId × Nat):=
 match P.underlying T with
 | some (.struct fs)=>(fs[f]?).map λfd=>(fd.type,fd.offset)
 | _=>none
def fldV (P:Program):Option (TypeId × Nat)->V->(V->Prop)->Prop
 | some (t,fo),.agg cs,C=>Jf P t cs fo C
 | _,_,_=>False
@[go_sem] theorem sfield_u {f:Nat}:HN P T f v C=fldV P (fdT P T f) v C:=by
 unfold HN fdT;cases P.underlying T with
 | none=>rfl
 | some d=>
   cases d with
   | struct fs=>
     simp only;cases hf:fs[f]? with
     | none=>cases v <;> simp [fldV,hf]
     | some fd=>cases v <;> simp [fldV,hf]
   | _=>rfl
@[go_sem] theorem fldV_some {t:TypeId} {fo:Nat}:fldV P (some (t,fo)) (.agg cs) C=Jf P t cs fo C:=rI rfl
def ldH (ver:Nat->Nat) (id:Pa) (off:Nat):List V->(V->Prop)->Prop
 | u::_,C=>C (u.ld (.cell id off (ver off)))
 | [],_=>False
@[go_sem] theorem ldH_cons {ver:Nat->Nat} {u:V}:ldH ver id off (u::cs) C=C (u.ld (.cell id off (ver off))):=rI rfl
def Vb (ver:Nat->Nat) (id:Pa):Nat->List V->List V
 | _,[]=>[]
 | off,u::cs=>u.ld (.cell id off (ver off))::Vb ver id (off+1) cs
@[go_sem] theorem zap {ver:Nat->Nat} {u:V}:Vb ver id off (u::cs)=u.ld (.cell id off (ver off))::Vb ver id (off+1) cs:=rI rfl
def Rx:Option Bool->Option Nat->(Nat->Nat)->Pa->Nat->Option (List V)->(V->Prop)->Prop
 | some false,_,ver,id,off,some cs,C=>ldH ver id off (cs.drop off) C
 | some true,some n,_,_,off,some cs,C=>n<=(cs.drop off).length/\C (.agg (((cs.drop off).take n).map V.shared))
 | _,_,_,_,_,_,_=>False
theorem Tu {ver:Nat->Nat}:∀ {off:Nat} {cs:List V} {f:Nat},((cs.mapIdx λj v=>v.ld (.cell id (f+j) (ver (f+j)))).drop off)=Vb ver id (f+off) (cs.drop off):=by
 intro off
 induction off with
 | zero=>
   intro cs
   induction cs with
   | nil=>intro f;rfl
   | cons u cs ih=>
     intro f;have h1:=ih (f:=f+1);simp only [DH,Qp] at h1 ⊢;rw [List.mapIdx_cons,zap,←h1,Qp]
     congr 2
     funext j v
     rw [show f+(j+1)=f+1+j by omega]
 | succ off ih=>
   intro cs f;cases cs with
   | nil=>simp [Vb]
   | cons u cs=>
     rw [List.mapIdx_cons,Sr,Sr,show f+(off+1)=f+1+off by omega,←ih]
     congr 2
     funext j v
     rw [show f+(j+1)=f+1+j by omega]
theorem zan {ver:Nat->Nat}:(IL ver id cs).drop off=Vb ver id off (cs.drop off):=by
 have:=Tu (id:=id) (ver:=ver) (off:=off) (cs:=cs) (f:=0);simpa [IL] using this
theorem zao {ver:Nat->Nat}:∀ {n off:Nat} {cs:List V},(Vb ver id off cs).take n=Vb ver id off (cs.take n):=by
 intro n
 induction n with
 | zero=>intro off cs;simp [Vb]
 | succ n ih=>
   intro off cs;cases cs with
   | nil=>simp [Vb]
   | cons u cs=>simp [Vb,ih]
theorem Va {ver:Nat->Nat}:∀ {off:Nat} {cs:List V},(Vb ver id off cs).length=cs.length:=by
 intro off cs
 induction cs generalizing off with
 | nil=>rfl
 | cons u cs ih=>simp [Vb,ih]
theorem QC {s:wE} {v:V}:(V.ld s v).shared=v.shared:=by
 cases v with
 | list o rows=>cases o <;> rfl
 | _=>rfl
theorem UZ {ver:Nat->Nat}:∀ {off:Nat} {cs:List V},(Vb ver id off cs).map V.shared=cs.map V.shared:=by
 intro off cs
 induction cs generalizing off with
 | nil=>rfl
 | cons u cs ih=>simp only [Vb,yV,QC,ih]
@[go_sem] theorem sload_p:yO P m T (.ptr id off) C=Rx (oC P T) (cC P T) (m.ver id) id off (m.blk id) C:=by
 have hc:DF m (.ptr id off)=(m.blk id).map λvs=>(IL (m.ver id) id vs).drop off:=rfl;unfold yO Rx;rw [hc];cases hb:m.blk id with
 | none=>cases oC P T with
   | none=>rfl
   | some b=>cases b <;> first | rfl | (cases cC P T <;> rfl)
 | some cs=>
   simp only [PJ];rw [zan];cases oC P T with
   | none=>rfl
   | some b=>
     cases b with
     | true=>
       cases cC P T with
       | none=>rfl
       | some n=>simp only [zao,Va,UZ]
     | false=>
       simp only [];cases cs.drop off <;> rfl
@[go_sem] theorem sloadB_f {z:Option Nat} {ver:Nat->Nat}:Rx (some false) z ver id off (some cs) C=ldH ver id off (cs.drop off) C:=rI rfl
@[go_sem] theorem sloadB_t {ver:Nat->Nat}:Rx (some true) (some n) ver id off (some cs) C=(n<=(cs.drop off).length/\C (.agg (((cs.drop off).take n).map V.shared))):=rI rfl
def Mp:Option Bool->Option Nat->Nat->Option (List V)->(V->Prop)->Prop
 | some false,_,off,some r,C=>hd (r.drop off) C
 | some true,some n,off,some r,C=>n<=(r.drop off).length/\C (.agg (((r.drop off).take n).map V.shared))
 | _,_,_,_,_=>False
@[go_sem] theorem sload_e {j:Nat}:yO P m T (.eptr rows j off) C=Mp (oC P T) (cC P T) off rows[j]? C:=by
 have hc:DF m (.eptr rows j off)=(rows[j]?).map λr=>r.drop off:=rfl;unfold yO Mp;rw [hc];cases hb:rows[j]? with
 | none=>cases oC P T with
   | none=>rfl
   | some b=>cases b <;> cases cC P T <;> rfl
 | some r=>
   simp only [PJ];cases oC P T with
   | none=>rfl
   | some b=>
     cases b with
     | true=>cases cC P T <;> rfl
     | false=>
       simp only [hd];cases r.drop off <;> rfl
@[go_sem] theorem sload_q:yO P m T (.pp id off) C=Mp (oC P T) (cC P T) off (m.hp id) C:=by
 have hc:DF m (.pp id off)=(m.hp id).map λr=>r.drop off:=rfl;unfold yO Mp;rw [hc];cases hb:m.hp id with
 | none=>cases oC P T with
   | none=>rfl
   | some b=>cases b <;> cases cC P T <;> rfl
 | some r=>
   simp only [PJ];cases oC P T with
   | none=>rfl
   | some b=>
     cases b with
     | true=>cases cC P T <;> rfl
     | false=>
       simp only [hd];cases r.drop off <;> rfl
@[go_sem] theorem sloadE_f {z:Option Nat} {r:List V}:Mp (some false) z off (some r) C=hd (r.drop off) C:=rI rfl
@[go_sem] theorem sloadE_t {r:List V}:Mp (some true) (some n) off (some r) C=(n<=(r.drop off).length/\C (.agg (((r.drop off).take n).map V.shared))):=rI rfl
@[go_sem] theorem ld_lit {s:wE} {x:Value}:V.ld s (.lit x)=.lit x:=rI rfl
@[go_sem] theorem ld_ptr {s:wE}:V.ld s (.ptr id off)=.ptr id off:=rI rfl
@[go_sem] theorem ld_pp {s:wE}:V.ld s (.pp id off)=.pp id off:=rI rfl
@[go_sem] theorem ld_vec {s:wE} {sz len:Nat}:V.ld s (.vec id sz len)=.vec id sz len:=rI rfl
def ldO (s:wE):NV->NV
 | .self=>.st s
 | o=>o
@[go_sem] theorem ld_list {s:wE}:V.ld s (.list o rows)=.list (ldO s o) rows:=by cases o <;> rfl
@[go_sem] theorem ldO_self {s:wE}:ldO s .self=.st s:=rI rfl
@[go_sem] theorem ldO_none {s:wE}:ldO s .none=.none:=rI rfl
def Ly:Option (List V)->Option Nat->Bool->Nat->Nat->M->(M->Prop)->Prop
 | some vs,some n,ok,len,off,m',C=>ok=true/\len=n/\off+n<=vs.length/\C m'
 | _,_,_,_,_,_,_=>False
@[go_sem] theorem sstore_p:DY P m T (.ptr id off) v Cm=Ly (m.blk id) (cC P T) v.cellsOk v.cells.length off (m.stN id off v.cells) Cm:=by
 unfold DY Ly;simp only;cases m.blk id <;> cases cC P T <;> rfl
def hpGet:Option (List V)->List V
 | some vs=>vs
 | none=>[]
@[go_sem] theorem hpGet_some:hpGet (some vs)=vs:=rI rfl
@[go_sem] theorem sstore_q:DY P m T (.pp id off) v Cm=Ly (m.hp id) (cC P T) v.cellsOk v.cells.length off (m.hset id (Kq (hpGet (m.hp id)) off (v.cells.map V.toHp))) Cm:=by
 unfold DY Ly;simp only;cases m.hp id <;> cases cC P T <;> rfl
@[go_sem] theorem putN_nil:Kq cs off []=cs:=rI rfl
@[go_sem] theorem putN_cons:Kq cs off (v::vs)=Kq (cs.set off v) (off+1) vs:=rI rfl
@[go_sem] theorem toHp_lit {x:Value}:V.toHp (.lit x)=.lit x:=rI rfl
@[go_sem] theorem toHp_none:V.toHp (.list .none rows)=.list .none rows:=rI rfl
@[go_sem] theorem toHp_nil:V.toHp (.list .exact [])=.nilv:=rI rfl
@[go_sem] theorem toHp_vec {sz len:Nat}:V.toHp (.vec id sz len)=.vec id sz len:=rI rfl
@[go_sem] theorem toHp_nilv:V.toHp .nilv=.nilv:=rI rfl
@[go_sem] theorem hset_blk:(m.hset id vs).blk=m.blk:=rI rfl
@[go_sem] theorem hset_ver:(m.hset id vs).ver=m.ver:=rI rfl
@[go_sem] theorem hset_gl:(m.hset id vs).gl=m.gl:=rI rfl
@[go_sem] theorem sstoreB_some {ok:Bool} {len:Nat} {m':M}:Ly (some vs) (some n) ok len off m' Cm=(ok=true/\len=n/\off+n<=vs.length/\Cm m'):=rI rfl
@[go_sem] theorem cells_agg:V.cells (.agg vs)=vs:=rI rfl
@[go_sem] theorem cells_lit {x:Value}:V.cells (.lit x)=[.lit x]:=rI rfl
@[go_sem] theorem cells_ptr:V.cells (.ptr id off)=[.ptr id off]:=rI rfl
@[go_sem] theorem cells_list:V.cells (.list o rows)=[.list o rows]:=rI rfl
@[go_sem] theorem cells_pp:V.cells (.pp id off)=[.pp id off]:=rI rfl
@[go_sem] theorem cells_vec {sz len:Nat}:V.cells (.vec id sz len)=[.vec id sz len]:=rI rfl
@[go_sem] theorem cells_fn {f:Fn} {xs ys:List V}:V.cells (.fn f xs ys)=[.fn f xs ys]:=rI rfl
@[go_sem] theorem cok_agg:V.cellsOk (.agg vs)=true:=rI rfl
@[go_sem] theorem cok_int:V.cellsOk (.lit (.int k i))=true:=rI rfl
@[go_sem] theorem cok_bool {b:Bool}:V.cellsOk (.lit (.bool b))=true:=rI rfl
@[go_sem] theorem cok_str {b:ByteArray}:V.cellsOk (.lit (.string b))=true:=rI rfl
@[go_sem] theorem cok_ptr:V.cellsOk (.ptr id off)=true:=rI rfl
@[go_sem] theorem cok_list:V.cellsOk (.list o rows)=true:=rI rfl
@[go_sem] theorem cok_pp:V.cellsOk (.pp id off)=true:=rI rfl
@[go_sem] theorem cok_vec {sz len:Nat}:V.cellsOk (.vec id sz len)=true:=rI rfl
@[go_sem] theorem cok_fn {f:Fn} {xs ys:List V}:V.cellsOk (.fn f xs ys)=true:=rI rfl
@[go_sem] theorem stN_nil:M.stN m id off []=m:=rI rfl
def stB:Option (List V)->M->Pa->Nat->V->M
 | some cs,m,id,off,v=>m.st1 id cs off v
 | none,m,_,_,_=>m
@[go_sem] theorem stN_cons:M.stN m id off (v::vs)=(stB (m.blk id) m id off v).stN id (off+1) vs:=by
 simp only [M.stN];cases m.blk id <;> rfl
@[go_sem] theorem stB_some:stB (some cs) m id off v=m.st1 id cs off v:=rI rfl
@[go_sem] theorem st1_lit {x:Value}:M.st1 m id cs off (.lit x)=m.set id (cs.set off (.lit x)):=rI rfl
@[go_sem] theorem st1_pp {id':Pa} {off':Nat}:M.st1 m id cs off (.pp id' off')=m.set id (cs.set off (.pp id' off')):=rI rfl
@[go_sem] theorem st1_vec {id':Pa} {sz len:Nat}:M.st1 m id cs off (.vec id' sz len)=m.set id (cs.set off (.vec id' sz len)):=rI rfl
@[go_sem] theorem st1_nilv:M.st1 m id cs off .nilv=m.set id (cs.set off .nilv):=rI rfl
@[go_sem] theorem st1_list:M.st1 m id cs off (.list o rows)=if GH m o rows then ((m.kill o).set id (cs.set off (.list .self rows))).bump id off else m.set id (cs.set off (.list .none rows)):=rI rfl
@[go_sem] theorem Zw:GH m .exact rows=true:=rI rfl
@[go_sem] theorem selfable_none:GH m .none rows=false:=rI rfl
@[go_sem] theorem selfable_anon {j:Nat}:GH m (.st (.anon id j)) rows=m.tok id j:=rI rfl
@[go_sem] theorem kill_exact:M.kill m .exact=m:=rI rfl
@[go_sem] theorem kill_anon {j:Nat}:M.kill m (.st (.anon id j))=m.tokset id j false:=rI rfl
@[go_sem] theorem drop_exact:M.drop m .exact=m:=rI rfl
def NN:List V->List V->M->Pa->Nat->M
 | .list .self rows::_,cs,m,id,off=>m.set id (cs.set off (.list .none rows))
 | _,_,m,_,_=>m
def Ds:Option (List V)->M->Pa->Nat->M
 | some cs,m,id,off=>NN (cs.drop off) cs m id off
 | none,m,_,_=>m
@[go_sem] theorem XS {j:Nat}:M.drop m (.st (.cell id off j))=Ds (m.blk id) m id off:=by
 show m.unself id off=_;unfold M.unself Ds;cases m.blk id with
 | none=>rfl
 | some cs=>
   simp only;rw [←xdx];cases cs.drop off with
   | nil=>rfl
   | cons u us=>cases u with
     | list o rows=>cases o <;> rfl
     | _=>rfl
@[go_sem] theorem unselfB_some:Ds (some cs) m id off=NN (cs.drop off) cs m id off:=rI rfl
@[go_sem] theorem unselfC_self:NN (.list .self rows::vs) cs m id off=m.set id (cs.set off (.list .none rows)):=rI rfl
@[go_sem] theorem unselfC_none:NN (.list .none rows::vs) cs m id off=m:=rI rfl
@[go_sem] theorem set_blk {id':Pa}:(m.set id vs).blk id'=if id'=id then some vs else m.blk id':=rI rfl
@[go_sem] theorem set_ver:(m.set id vs).ver=m.ver:=rI rfl
@[go_sem] theorem set_tok:(m.set id vs).tok=m.tok:=rI rfl
@[go_sem] theorem set_gl:(m.set id vs).gl=m.gl:=rI rfl
@[go_sem] theorem set_hp:(m.set id vs).hp=m.hp:=rI rfl
@[go_sem] theorem bump_hp:(m.bump id off).hp=m.hp:=rI rfl
@[go_sem] theorem tokset_hp {b:Bool}:(m.tokset id n b).hp=m.hp:=rI rfl
@[go_sem] theorem bump_blk:(m.bump id off).blk=m.blk:=rI rfl
@[go_sem] theorem bump_tok:(m.bump id off).tok=m.tok:=rI rfl
@[go_sem] theorem bump_gl:(m.bump id off).gl=m.gl:=rI rfl
@[go_sem] theorem bump_ver {id':Pa} {off':Nat}:(m.bump id off).ver id' off'=if id'=id/\off'=off then m.ver id' off'+1 else m.ver id' off':=rI rfl
@[go_sem] theorem tokset_blk {b:Bool}:(m.tokset id n b).blk=m.blk:=rI rfl
@[go_sem] theorem tokset_ver {b:Bool}:(m.tokset id n b).ver=m.ver:=rI rfl
@[go_sem] theorem tokset_gl {b:Bool}:(m.tokset id n b).gl=m.gl:=rI rfl
@[go_sem] theorem tokset_tok {b:Bool} {id':Pa} {n':Nat}:(m.tokset id n b).tok id' n'=if id'=id/\n'=n then b else m.tok id' n':=rI rfl
@[go_sem] theorem set_set {vs':List V}:(m.set id vs).set id vs'=m.set id vs':=by
 show M.mk _ m.ver m.tok m.gl m.hp=M.mk _ m.ver m.tok m.gl m.hp
 congr 1
 funext i
 show (if i=id then some vs' else if i=id then some vs else m.blk i)=if i=id then some vs' else m.blk i
 by_cases h:i=id
 ·rw [cX h,cX h]
 ·rw [cE h,cE h,cE h]
def zak:Option (List V)->Nat->Bool
 | some cs,off=>(match cs.drop off with | .list .self _::_=>true | _=>false)
 | none,_=>false
def Zx:List V->Bool
 | .list .self _::_=>true
 | _=>false
@[go_sem] theorem liveB_anon {j:Nat}:gJ m (.anon id j)=m.tok id j:=rI rfl
@[go_sem] theorem liveB_c {j:Nat}:gJ m (.cell id off j)=(m.ver id off == j && zak (m.blk id) off):=by
 unfold gJ zak;simp only;cases m.blk id with
 | none=>rfl
 | some cs=>
   simp only;rw [←xdx];cases cs.drop off with
   | nil=>rfl
   | cons u us=>cases u with
     | list o rows=>cases o <;> rfl
     | _=>rfl
@[go_sem] theorem liveC_some:zak (some cs) off=Zx (cs.drop off):=rI rfl
@[go_sem] theorem selfHd_self:Zx (.list .self rows::vs)=true:=rI rfl
@[go_sem] theorem Yj:yG m .exact rows=true:=rI rfl
@[go_sem] theorem appendable_st {s:wE}:yG m (.st s) rows=(rows.isEmpty || gJ m s):=rI rfl
@[go_sem] theorem raw0_lit {x:Value}:V.raw0 (.lit x)=.lit x:=rI rfl
def rawO:NV->List (List V)->NV
 | .exact,_=>.self
 | .st _,[]=>.self
 | _,_=>.none
@[go_sem] theorem raw0_list:V.raw0 (.list o rows)=.list (rawO o rows) rows:=by
 cases o with
 | st s=>cases rows <;> rfl
 | _=>rfl
@[go_sem] theorem rawO_exact:rawO .exact rows=.self:=rI rfl
@[go_sem] theorem rawO_none:rawO .none rows=.none:=rI rfl
@[go_sem] theorem raw0_ptr:V.raw0 (.ptr id off)=.ptr id off:=rI rfl
@[go_sem] theorem shared_list:V.shared (.list o rows)=.list .none rows:=rI rfl
@[go_sem] theorem shared_lit {x:Value}:V.shared (.lit x)=.lit x:=rI rfl
@[go_sem] theorem raw0_vec {sz len:Nat}:V.raw0 (.vec id sz len)=.vec id sz len:=rI rfl
@[go_sem] theorem raw0_nilv:V.raw0 .nilv=.list .self []:=rI rfl
@[go_sem] theorem shared_vec {sz len:Nat}:V.shared (.vec id sz len)=.vec id sz len:=rI rfl
@[go_sem] theorem shared_nilv:V.shared .nilv=.nilv:=rI rfl
@[go_sem] theorem shared_fn {f:Fn} {xs ys:List V}:V.shared (.fn f xs ys)=.fn f xs ys:=rI rfl
@[go_sem] theorem weak_lit {x:Value}:V.weak (.lit x)=.lit x:=rI rfl
@[go_sem] theorem weak_list:V.weak (.list o rows)=.list .none rows:=rI rfl
@[go_sem] theorem weak_agg:V.weak (.agg vs)=.agg (vs.map V.shared):=rI rfl
@[go_sem] theorem weak_tup:V.weak (.tup vs)=.tup (vs.map V.weak1):=rI rfl
@[go_sem] theorem weak1_lit {x:Value}:V.weak1 (.lit x)=.lit x:=rI rfl
@[go_sem] theorem weak1_list:V.weak1 (.list o rows)=.list .none rows:=rI rfl
@[go_sem] theorem weak1_ptr:V.weak1 (.ptr id off)=.ptr id off:=rI rfl
@[go_sem] theorem weak1_agg:V.weak1 (.agg vs)=.agg (vs.map V.shared):=rI rfl
def LV:Option (List V)->(V->Prop)->Prop
 | some r,C=>C (.agg r)
 | none,_=>False
@[go_sem] theorem fillU_some:LV (some vs) C=C (.agg vs):=rI rfl
def HP (P:Program) (T:TypeId):UD->List (Nat × V)->(V->Prop)->Prop
 | .st,ps,C=>(match cZ P T,lG P T with | some zs,some l=>LV (Be (l[·]?) zs ps) C | _,_=>False)
 | .ar _ e,ps,C=>(match cZ P T,cC P e with | some zs,some s=>LV (Be (λi=>some (i*s,s)) zs ps) C | _,_=>False)
 | _,_,_=>False
@[go_sem] theorem sbuild_u {ps:List (Nat × V)}:FO P T ps C=HP P T (ud P T) ps C:=by
 unfold FO ud;cases P.underlying T with
 | none=>rfl
 | some d=>
   cases d with
   | struct fs=>
     simp only [YX,HP];cases cZ P T with
     | none=>rfl
     | some zs=>
       simp only;cases lG P T with
       | none=>rfl
       | some l=>simp only [LV];cases Be (l[·]?) zs ps <;> rfl
   | array n e=>
     simp only [YX,HP];cases cZ P T with
     | none=>rfl
     | some zs=>
       simp only;cases cC P e with
       | none=>rfl
       | some s=>simp only [LV];cases Be (λi=>some (i*s,s)) zs ps <;> rfl
   | _=>cases cZ P T <;> rfl
def bldS:Option (List V)->Option (List (Nat × Nat))->List (Nat × V)->(V->Prop)->Prop
 | some zs,some l,ps,C=>LV (fillS l zs ps) C
 | _,_,_,_=>False
where fillS (l:List (Nat × Nat)) (zs:List V) (ps:List (Nat × V)):Option (List V):=Be (l[·]?) zs ps
def bldA:Option (List V)->Option Nat->List (Nat × V)->(V->Prop)->Prop
 | some zs,some s,ps,C=>LV (Be (λi=>some (i*s,s)) zs ps) C
 | _,_,_,_=>False
@[go_sem] theorem sbuildU_s {ps:List (Nat × V)}:HP P T .st ps C=bldS (cZ P T) (lG P T) ps C:=by
 unfold HP bldS;cases cZ P T <;> cases lG P T <;> rfl
@[go_sem] theorem sbuildU_a {e:TypeId} {ps:List (Nat × V)}:HP P T (.ar n e) ps C=bldA (cZ P T) (cC P e) ps C:=by
 unfold HP bldA;simp only;cases cZ P T <;> cases cC P e <;> rfl
@[go_sem] theorem bldS_some {zs:List V} {l:List (Nat × Nat)} {ps:List (Nat × V)}:bldS (some zs) (some l) ps C=LV (Be (l[·]?) zs ps) C:=rI rfl
@[go_sem] theorem bldA_some {zs:List V} {ps:List (Nat × V)}:bldA (some zs) (some s) ps C=LV (Be (λi=>some (i*s,s)) zs ps) C:=rI rfl
@[go_sem] theorem fillV_nil {pl:Nat->Option (Nat × Nat)}:Be pl cs []=some cs:=rI rfl
def zaE (pl:Nat->Option (Nat × Nat)) (cells:List V) (v:V) (rest:List (Nat × V)):Option (Nat × Nat)->Option (List V)
 | none=>none
 | some (off,size)=>if v.cellsOk=true/\v.cells.length=size/\off+size<=cells.length then Be pl (cells.take off++v.cells++cells.drop (off+size)) rest else none
@[go_sem] theorem fillV_cons {pl:Nat->Option (Nat × Nat)} {j:Nat} {rest:List (Nat × V)}:Be pl cs ((j,v)::rest)=zaE pl cs v rest (pl j):=by
 simp only [Be,zaE];cases pl j <;> rfl
@[go_sem] theorem fillP_some {pl:Nat->Option (Nat × Nat)} {rest:List (Nat × V)}:zaE pl cs v rest (some (off,s))=if v.cellsOk=true/\v.cells.length=s/\off+s<=cs.length then Be pl (cs.take off++v.cells++cs.drop (off+s)) rest else none:=rI rfl
def bslU (P:Program):UD->Nat->List (Nat × V)->(V->Prop)->Prop
 | .sl e,n,ps,C=>(match cC P e,cZ P e with
   | some s,some _=>ps.map Prod.fst=List.range n/\0<s/\n*s<=16777216/\(∀p ∈ ps,p.2.cellsOk=true/\p.2.cells.length=s)/\C (.list .exact (ps.map λp=>p.2.cells.map V.shared))
   | _,_=>False)
 | _,_,_,_=>False
@[go_sem] theorem sbuildSlice_u {ps:List (Nat × V)}:tU P T n ps C=bslU P (ud P T) n ps C:=by
 unfold tU ud;cases P.underlying T with
 | none=>rfl
 | some d=>cases d <;> rfl
def bslC:Option Nat->Option (List V)->Nat->List (Nat × V)->(V->Prop)->Prop
 | some s,some _,n,ps,C=>ps.map Prod.fst=List.range n/\0<s/\n*s<=16777216/\(∀p ∈ ps,p.2.cellsOk=true/\p.2.cells.length=s)/\C (.list .exact (ps.map λp=>p.2.cells.map V.shared))
 | _,_,_,_,_=>False
@[go_sem] theorem bslU_l {e:TypeId} {ps:List (Nat × V)}:bslU P (.sl e) n ps C=bslC (cC P e) (cZ P e) n ps C:=by
 unfold bslU bslC;simp only;cases cC P e <;> cases cZ P e <;> rfl
def Po (s:Nat):Nat->List (Nat × V)->Prop
 | _,[]=>True
 | j,(i,v)::ps=>i=j/\v.cellsOk=true/\v.cells.length=s/\Po s (j+1) ps
@[go_sem] theorem bslOk_nil {j:Nat}:Po s j []=True:=rI rfl
@[go_sem] theorem Vt {j i:Nat} {ps:List (Nat × V)}:Po s j ((i,v)::ps)=(i=j/\v.cellsOk=true/\v.cells.length=s/\Po s (j+1) ps):=rI rfl
theorem zaX:∀ {ps:List (Nat × V)} {j:Nat},Po s j ps ↔ ps.map Prod.fst=(List.range ps.length).map (j + ·)/\∀p ∈ ps,p.2.cellsOk=true/\p.2.cells.length=s:=by
 intro ps
 induction ps with
 | nil=>intro j;simp [Po]
 | cons p ps ih=>
   intro j;obtain ⟨i,v⟩:=p;rw [Vt,ih];simp only [yV,qB,List.range_succ_eq_map,List.map_map,List.cons.injEq,Qp,List.forall_mem_cons];have:((λx=>j+x) ∘ Nat.succ)=λx=>j+1+x:=by funext x;simp only [Function.comp];omega
   rw [this]
   constructor
   ·rintro ⟨h1,h2,h3,h4,h5⟩;exact ⟨⟨h1,h4⟩,⟨h2,h3⟩,h5⟩
   ·rintro ⟨⟨h1,h4⟩,⟨h2,h3⟩,h5⟩;exact ⟨h1,h2,h3,h4,h5⟩
@[go_sem] theorem bslC_some {zs:List V} {ps:List (Nat × V)}:bslC (some s) (some zs) n ps C=(ps.length=n/\Po s 0 ps/\0<s/\n*s<=16777216/\C (.list .exact (ps.map λp=>p.2.cells.map V.shared))):=by
 apply propext;show (ps.map Prod.fst=List.range n/\0<s/\n*s<=16777216/\(∀p ∈ ps,p.2.cellsOk=true/\p.2.cells.length=s)/\_) ↔ _;rw [zaX];have hz:∀l:List Nat,l.map (0 + ·)=l:=λl=>by simp
 rw [hz]
 constructor
 ·rintro ⟨h1,h2,h3,h4,h5⟩;have hl:ps.length=n:=by have:=DI List.length h1;simpa using this
  exact ⟨hl,⟨by rw [hl];exact h1,h4⟩,h2,h3,h5⟩
 ·rintro ⟨hl,⟨h1,h4⟩,h2,h3,h5⟩;exact ⟨by rw [h1,hl],h2,h3,h4,h5⟩
def ZW:UD->V->Option (List (List V))
 | .sl _,.list _ rows=>some rows
 | .str,.lit (.string s)=>some (lS s)
 | _,_=>none
@[go_sem] theorem newsV_u:QG P T v=ZW (ud P T) v:=by
 unfold QG ud;cases P.underlying T with
 | none=>rfl
 | some d=>cases d <;> first | rfl | (cases v <;> first | rfl | (rename_i x;cases x <;> rfl))
@[go_sem] theorem newsU_l {e:TypeId}:ZW (.sl e) (.list o rows)=some rows:=rI rfl
def TZ (P:Program) (q:Pa) (m:M):UD->V->Option (List (List V))->(V->M->Prop)->Prop
 | .sl e,.list o rows,some rows2,C=>(match cC P e,cZ P e,(P.info? e).map (·.bytes) with
    | some n,some zs,some by_=>yG m o rows=true/\0<n/\by_<=65536/\zs.length=n/\(∀r ∈ rows,r.length=n)/\(∀r ∈ rows2,r.length=n)/\rows.length+rows2.length<=1073741824 ∧
       C (.list (.st (.anon q 0)) (rows++rows2)) ((m.drop o).tokset q 0 true)
    | _,_,_=>False)
 | .sl e,.nilv,some rows2,C=>(match cC P e,cZ P e,(P.info? e).map (·.bytes) with
    | some n,some zs,some by_=>0<n/\by_<=65536/\zs.length=n/\(∀r ∈ rows2,r.length=n)/\0<rows2.length/\rows2.length<=1073741824 ∧
       C (.vec q n rows2.length) (m.hset q (rows2.flatten.map V.toHp))
    | _,_,_=>False)
 | .sl e,.vec id sz len,some rows2,C=>(match cC P e,cZ P e,(P.info? e).map (·.bytes),m.hp id with
    | some n,some zs,some by_,some vs=>sz=n/\by_<=65536/\zs.length=n/\(∀r ∈ rows2,r.length=n)/\len*n<=vs.length/\len+rows2.length<=1073741824 ∧
       C (.vec q n (len+rows2.length)) (m.hmove id q (vs.take (len*n)++rows2.flatten.map V.toHp))
    | _,_,_,_=>False)
 | _,_,_,_=>False
@[go_sem] theorem sappend_u {q:Pa} {u:TypeId} {x:V}:zX P q m T u v x CM=TZ P q m (ud P T) v (ZW (ud P u) x) CM:=by
 rw [←newsV_u];unfold zX ud;cases P.underlying T with
 | none=>rfl
 | some d=>cases d <;> first | rfl | (cases v <;> first | rfl | (cases QG P u x <;> rfl))
def appC (q:Pa) (m:M) (o:NV) (rows rows2:List (List V)):Option Nat->Option (List V)->Option Nat->(V->M->Prop)->Prop
 | some n,some zs,some by_,C=>yG m o rows=true/\0<n/\by_<=65536/\zs.length=n/\(∀r ∈ rows,r.length=n)/\(∀r ∈ rows2,r.length=n)/\rows.length+rows2.length<=1073741824 ∧
      C (.list (.st (.anon q 0)) (rows++rows2)) ((m.drop o).tokset q 0 true)
 | _,_,_,_=>False
@[go_sem] theorem appU_l {q:Pa} {e:TypeId}:TZ P q m (.sl e) (.list o rows) (some rows2) CM=appC q m o rows rows2 (cC P e) (cZ P e) ((P.info? e).map (·.bytes)) CM:=by
 unfold TZ appC;simp only;cases cC P e <;> cases cZ P e <;> cases (P.info? e).map (·.bytes) <;> rfl
def appN (q:Pa) (m:M) (rows2:List (List V)):Option Nat->Option (List V)->Option Nat->(V->M->Prop)->Prop
 | some n,some zs,some by_,C=>0<n/\by_<=65536/\zs.length=n/\(∀r ∈ rows2,r.length=n)/\0<rows2.length/\rows2.length<=1073741824/\C (.vec q n rows2.length) (m.hset q (rows2.flatten.map V.toHp))
 | _,_,_,_=>False
def appV (q:Pa) (m:M) (id:Pa) (sz len:Nat) (rows2:List (List V)):Option Nat->Option (List V)->Option Nat->Option (List V)->(V->M->Prop)->Prop
 | some n,some zs,some by_,some vs,C=>sz=n/\by_<=65536/\zs.length=n/\(∀r ∈ rows2,r.length=n)/\len*n<=vs.length/\len+rows2.length<=1073741824/\C (.vec q n (len+rows2.length)) (m.hmove id q (vs.take (len*n)++rows2.flatten.map V.toHp))
 | _,_,_,_,_=>False
@[go_sem] theorem appU_n {q:Pa} {e:TypeId}:TZ P q m (.sl e) .nilv (some rows2) CM=appN q m rows2 (cC P e) (cZ P e) ((P.info? e).map (·.bytes)) CM:=by
 unfold TZ appN;simp only;cases cC P e <;> cases cZ P e <;> cases (P.info? e).map (·.bytes) <;> rfl
@[go_sem] theorem appU_v {q:Pa} {e:TypeId} {sz len:Nat}:TZ P q m (.sl e) (.vec id sz len) (some rows2) CM=appV q m id sz len rows2 (cC P e) (cZ P e) ((P.info? e).map (·.bytes)) (m.hp id) CM:=by
 unfold TZ appV;simp only;cases cC P e <;> cases cZ P e <;> cases (P.info? e).map (·.bytes) <;> cases m.hp id <;> rfl
@[go_sem] theorem Yl {q:Pa} {zs:List V} {by_:Nat}:appN q m rows2 (some n) (some zs) (some by_) CM=(0<n/\by_<=65536/\zs.length=n/\(∀r ∈ rows2,r.length=n)/\0<rows2.length/\rows2.length<=1073741824/\CM (.vec q n rows2.length) (m.hset q (rows2.flatten.map V.toHp))):=rI rfl
@[go_sem] theorem Yk {q:Pa} {zs:List V} {by_ sz len:Nat}:appV q m id sz len rows2 (some n) (some zs) (some by_) (some vs) CM=(sz=n/\by_<=65536/\zs.length=n/\(∀r ∈ rows2,r.length=n)/\len*n<=vs.length/\len+rows2.length<=1073741824/\CM (.vec q n (len+rows2.length)) (m.hmove id q (vs.take (len*n)++rows2.flatten.map V.toHp))):=rI rfl
def mkU (P:Program) (q:Pa) (m:M):UD->V->V->(V->M->Prop)->Prop
 | .sl e,.lit (.int _ n),.lit (.int _ n2),C=>(match cC P e,cZ P e,(P.info? e).map (·.bytes) with
    | some s,some zs,some by_=>n=n2/\0<=n/\0<s/\by_<=65536/\zs.length=s/\n<=1073741824/\C (.vec q s n.toNat) (m.hset q (List.replicate n.toNat (zs.map V.toHp)).flatten)
    | _,_,_=>False)
 | _,_,_,_=>False
@[go_sem] theorem smake_u {q:Pa} {l kk:V}:Fy P q m T l kk CM=mkU P q m (ud P T) l kk CM:=by
 unfold Fy ud;cases P.underlying T with
 | none=>rfl
 | some d=>cases d <;> first | rfl | (cases l <;> first | rfl | (rename_i x;cases x <;> first | rfl | (cases kk <;> first | rfl | (rename_i y;cases y <;> rfl))))
def mkC (q:Pa) (m:M) (i i2:Int):Option Nat->Option (List V)->Option Nat->(V->M->Prop)->Prop
 | some s,some zs,some by_,C=>i=i2/\0<=i/\0<s/\by_<=65536/\zs.length=s/\i<=1073741824/\C (.vec q s i.toNat) (m.hset q (List.replicate i.toNat (zs.map V.toHp)).flatten)
 | _,_,_,_=>False
@[go_sem] theorem mkU_l {q:Pa} {e:TypeId} {k2:IntKind} {i2:Int}:mkU P q m (.sl e) (.lit (.int k i)) (.lit (.int k2 i2)) CM=mkC q m i i2 (cC P e) (cZ P e) ((P.info? e).map (·.bytes)) CM:=by
 unfold mkU mkC;simp only;cases cC P e <;> cases cZ P e <;> cases (P.info? e).map (·.bytes) <;> rfl
@[go_sem] theorem mkC_some {q:Pa} {zs:List V} {by_:Nat} {i2:Int}:mkC q m i i2 (some s) (some zs) (some by_) CM=(i=i2/\0<=i/\0<s/\by_<=65536/\zs.length=s/\i<=1073741824/\CM (.vec q s i.toNat) (m.hset q (List.replicate i.toNat (zs.map V.toHp)).flatten)):=rI rfl
def zac (P:Program):UD->V->V->(V->Prop)->Prop
 | .sl e,.lit (.int _ i),.lit (.int _ i2),C=>mkLC i i2 (cC P e) (cZ P e) ((P.info? e).map (·.bytes)) C
 | _,_,_,_=>False
where mkLC (i i2:Int):Option Nat->Option (List V)->Option Nat->(V->Prop)->Prop
 | some s,some zs,some by_,C=>i=i2/\0<=i/\0<s/\by_<=65536/\zs.length=s/\i<=1073741824/\C (.list .exact (List.replicate i.toNat (zs.map V.toHp)))
 | _,_,_,_=>False
@[go_sem] theorem smakeL_u {l kk:V}:HJ P T l kk C=zac P (ud P T) l kk C:=by
 unfold HJ ud;cases P.underlying T with
 | none=>rfl
 | some d=>cases d <;> first | rfl | (cases l <;> first | rfl | (rename_i x;cases x <;> first | rfl | (cases kk <;> first | rfl | (rename_i e _ _ y;cases y <;> first | rfl | (show _=zac.mkLC _ _ (cC P e) (cZ P e) ((P.info? e).map (·.bytes)) C;simp only;cases cC P e <;> cases cZ P e <;> cases (P.info? e).map (·.bytes) <;> rfl)))))
@[go_sem] theorem mkLU_l {e:TypeId} {k2:IntKind} {i2:Int}:zac P (.sl e) (.lit (.int k i)) (.lit (.int k2 i2)) C=zac.mkLC i i2 (cC P e) (cZ P e) ((P.info? e).map (·.bytes)) C:=rI rfl
@[go_sem] theorem mkLC_some {zs:List V} {by_:Nat} {i2:Int}:zac.mkLC i i2 (some s) (some zs) (some by_) C=(i=i2/\0<=i/\0<s/\by_<=65536/\zs.length=s/\i<=1073741824/\C (.list .exact (List.replicate i.toNat (zs.map V.toHp)))):=rI rfl
@[go_sem] theorem appC_some {q:Pa} {zs:List V} {by_:Nat}:appC q m o rows rows2 (some n) (some zs) (some by_) CM=(yG m o rows=true/\0<n/\by_<=65536/\zs.length=n/\(∀r ∈ rows,r.length=n)/\(∀r ∈ rows2,r.length=n)/\rows.length+rows2.length<=1073741824/\CM (.list (.st (.anon q 0)) (rows++rows2)) ((m.drop o).tokset q 0 true)):=rI rfl
def cvU (P:Program) (src dst:TypeId):UD->UD->V->(V->Prop)->Prop
 | .int _,.int k,.lit (.int _ n),C=>C (.lit (.int k (k.wrap n)))
 | .int _,.str,.lit (.int _ n),C=>C (.lit (.string (Utf8.encode n)))
 | .str,.str,.lit (.string s),C=>C (.lit (.string s))
 | .sl e,.str,.list _ rows,C=>P.underlying e=some (.int .u8)/\∃s,rows=lS s/\C (.lit (.string s))
 | .str,.sl e,.lit (.string s),C=>P.underlying e=some (.int .u8)/\s.size<=4611686018427387904/\C (.list .none (lS s))
 | _,_,v,C=>Dm P src dst v C
@[go_sem] theorem sconv_u {D:TypeId}:Dm P T D v C=cvU P T D (ud P T) (ud P D) v C:=by
 unfold ud;cases hs:P.underlying T with
 | none=>rfl
 | some d=>
   cases hd:P.underlying D with
   | none=>cases d <;> rfl
   | some d'=>
     cases d <;> first
      | rfl
      | (cases d' <;> first
          | rfl
          | (cases v <;> first
              | rfl
              | (unfold cvU Dm;rw [hs,hd];done)
              | (rename_i x;cases x <;> first | rfl | (unfold cvU Dm;rw [hs,hd];done) | (simp only [YX,cvU,Dm,hs,hd]))
              | (simp only [YX,cvU,Dm,hs,hd])))
@[go_sem] theorem cvU_i {D:TypeId} {k2:IntKind}:cvU P T D (.int k2) (.int k) (.lit (.int k2 i)) C=C (.lit (.int k (k.wrap i))):=rI rfl
theorem Qk {a b:ByteArray} (h:lS a=lS b):a=b:=by
 have h2:∀l l':List UInt8,(l.map λb=>[V.lit (.int .u8 (b.toNat:Int))])=(l'.map λb=>[V.lit (.int .u8 (b.toNat:Int))])->l=l':=by
  intro l
  induction l with
  | nil=>intro l' h;cases l' with | nil=>rfl | cons _ _=>cases h
  | cons x l ih=>
    intro l' h;cases l' with
    | nil=>cases h
    | cons y l'=>
      simp only [yV,List.cons.injEq,V.lit.injEq,Value.int.injEq,true_and,and_true,Int.ofNat_inj] at h;rw [ih l' h.2,UInt8.toNat_inj.1 h.1]
 have:=h2 _ _ h;cases a;cases b
 simp only [Array.toList_inj] at this;exact DI ByteArray.mk this
theorem ud_u8 {e:TypeId}:(P.underlying e=some (.int .u8))=(ud P e=.int .u8):=by
 apply propext;unfold ud
 constructor
 ·intro h;rw [h];rfl
 ·intro h;cases hu:P.underlying e with
  | none=>rw [hu] at h;cases h
  | some d=>rw [hu] at h;cases d <;> first | (cases h;done) | (injection h with h;rw [h])
@[go_sem] theorem cvU_ls {D e:TypeId} {b:ByteArray}:cvU P T D (.sl e) .str (.list o (lS b)) C=(ud P e=.int .u8/\C (.lit (.string b))):=by
 apply propext;show (P.underlying e=some (.int .u8)/\∃s,lS b=lS s/\C (.lit (.string s))) ↔ _;rw [ud_u8];exact and_congr_right λ_=>⟨λ⟨s,h,hc⟩=>by rw [Qk h];exact hc,λhc=>⟨b,rfl,hc⟩⟩
def SY (P:Program):UD->V->Option V->Option V->(V->Prop)->Prop
 | .str,.lit (.string s),lo,hi,C=>
   (match mX lo 0,mX hi s.size with
    | some l,some h=>0<=l/\l<=h/\h<=s.size/\C (.lit (.string (s.extract l.toNat h.toNat)))
    | _,_=>False)
 | .sl e,.list _ rows,lo,hi,C=>
   (match mX lo 0,mX hi rows.length,cC P e with
    | some l,some h,some s=>0<=l/\l<=h/\h<=rows.length/\(∀r ∈ rows,r.length=s)/\C (.list .none ((rows.take h.toNat).drop l.toNat))
    | _,_,_=>False)
 | .ar n e,.eptr rows i off,lo,hi,C=>
   (match mX lo 0,mX hi n,cC P e,rows[i]? with
    | some l,some h,some s,some r=>0<s/\0<=l/\l<=h/\h<=n/\n<=1073741824/\off+n*s<=r.length/\C (.list .none (FI s (h.toNat - l.toNat) (r.drop (off+l.toNat*s))))
    | _,_,_,_=>False)
 | .ar n e,.ptr id off,lo,hi,C=>
   (match mX lo 0,mX hi n,cC P e with
    | some l,some h,some s=>0<=l/\l<=h/\h<=n/\l<n/\n<=1073741824/\C (.arr id (off+l.toNat*s) (h.toNat - l.toNat) (n - l.toNat))
    | _,_,_=>False)
 | .sl e,.vec id sz len,lo,hi,C=>
   (match mX lo 0,mX hi len,cC P e with
    | some l,some h,some _=>l=0/\0<=h/\h<=len/\C (.vec id sz h.toNat)
    | _,_,_=>False)
 | .sl e,.nilv,lo,hi,C=>
   (match mX lo 0,mX hi 0,cC P e with
    | some l,some h,some _=>l=0/\h=0/\C .nilv
    | _,_,_=>False)
 | _,_,_,_,_=>False
@[go_sem] theorem sslice_u {lo hi:Option V}:FM P T v lo hi C=SY P (ud P T) v lo hi C:=by
 unfold FM ud;cases P.underlying T with
 | none=>rfl
 | some d=>cases d <;> first | rfl | (cases v <;> first | rfl | (rename_i x;cases x <;> rfl))
def slS:Option Int->Option Int->ByteArray->(V->Prop)->Prop
 | some l,some h,s,C=>0<=l/\l<=h/\h<=s.size/\C (.lit (.string (s.extract l.toNat h.toNat)))
 | _,_,_,_=>False
def slL:Option Int->Option Int->Option Nat->List (List V)->(V->Prop)->Prop
 | some l,some h,some s,rows,C=>0<=l/\l<=h/\h<=rows.length/\(∀r ∈ rows,r.length=s)/\C (.list .none ((rows.take h.toNat).drop l.toNat))
 | _,_,_,_,_=>False
@[go_sem] theorem slU_s {b:ByteArray} {lo hi:Option V}:SY P .str (.lit (.string b)) lo hi C=slS (mX lo 0) (mX hi b.size) b C:=by
 unfold SY slS;simp only;cases mX lo 0 <;> cases mX hi b.size <;> rfl
@[go_sem] theorem slU_l {e:TypeId} {lo hi:Option V}:SY P (.sl e) (.list o rows) lo hi C=slL (mX lo 0) (mX hi rows.length) (cC P e) rows C:=by
 unfold SY slL;simp only;cases mX lo 0 <;> cases mX hi rows.length <;> cases cC P e <;> rfl
def slV:Option Int->Option Int->Option Nat->Pa->Nat->Nat->(V->Prop)->Prop
 | some l,some h,some _,id,sz,len,C=>l=0/\0<=h/\h<=len/\C (.vec id sz h.toNat)
 | _,_,_,_,_,_,_=>False
def slN:Option Int->Option Int->Option Nat->(V->Prop)->Prop
 | some l,some h,some _,C=>l=0/\h=0/\C .nilv
 | _,_,_,_=>False
@[go_sem] theorem slU_v {e:TypeId} {sz len:Nat} {lo hi:Option V}:SY P (.sl e) (.vec id sz len) lo hi C=slV (mX lo 0) (mX hi len) (cC P e) id sz len C:=by
 unfold SY slV;simp only;cases mX lo 0 <;> cases mX hi len <;> cases cC P e <;> rfl
@[go_sem] theorem slU_n {e:TypeId} {lo hi:Option V}:SY P (.sl e) .nilv lo hi C=slN (mX lo 0) (mX hi 0) (cC P e) C:=by
 unfold SY slN;simp only;cases mX lo 0 <;> cases mX hi 0 <;> cases cC P e <;> rfl
@[go_sem] theorem Zq {sz len:Nat} {l h:Int}:slV (some l) (some h) (some s) id sz len C=(l=0/\0<=h/\h<=len/\C (.vec id sz h.toNat)):=rI rfl
@[go_sem] theorem Zr {l h:Int}:slN (some l) (some h) (some s) C=(l=0/\h=0/\C .nilv):=rI rfl
@[go_sem] theorem slL_some {l h:Int}:slL (some l) (some h) (some s) rows C=(0<=l/\l<=h/\h<=rows.length/\(∀r ∈ rows,r.length=s)/\C (.list .none ((rows.take h.toNat).drop l.toNat))):=rI rfl
@[go_sem] theorem bndV_none {d:Nat}:mX none d=some (d:Int):=rI rfl
@[go_sem] theorem bndV_some {d:Nat}:mX (some (.lit (.int k i))) d=some i:=rI rfl
end
