/- The steps of 'lwp', one lemma each, for states that are written out. -/
import Derived.Test.YtpdaccjebbbbaaaGreatDoorLxI
import Derived.RangeFuncLeaves
import Derived.RangeFuncRecord
set_option linter.unusedSimpArgs false
set_option linter.unusedVariables false
set_option linter.unusedSectionVars false
set_option linter.unnecessarySimpa false
namespace Go.LX
open Go Go.RowKit Go.Proofs
def cvF (P:Program) (a b:TypeId) (x:Operand) (dst:Option Tmp) (K:St→Prop) (s:St):Prop:=if Jto P a=true then J1b P b (s.get x) (kput dst K s) else J1 P a b (s.get x) (kput dst K s)
def cvG (P:Program) (a b:TypeId) (s:St) (x:Operand) (dst:Option Tmp) (K:St→Prop) (l:L):Prop :=
 match l with
 | .ptr d 0 j=>L6 P a b d j (Am d s.regs) (kput dst K s)
 | .p (.str u)=>Og P a b u s dst K
 | _=>cvF P a b x dst K (s.freezeOps [x])
def lnil (l:L) (K:L→Prop):Prop :=
 match l with
 | .ptr d i j=>K (.ptr d i j)
 | .eptr cs=>K (.eptr cs)
 | .fn f ds=>K (.fn f ds)
 | _=>False
def Qk (l:L) (i:Nat) (K:L→Prop):Prop :=
 match l with
 | .tup xs=>∃ c,xs[i]? = some c∧K (.p c)
 | _=>False
def Jc0 (l a b:L) (K:L→Prop):Prop :=
 match l with
 | .p (.bool t)=>(t=true→K a)∧(t=false→K b)
 | _=>False
def Bi (X:Cx) (f:FuncId) (args:List L) (K:L→Prop):Prop:=∃ l,(Al X f args [] (fun m _=>m=l)∧l.retOK=true)∧K l
def lqvK (P:Program) (r:Regs) (s:St) (op:Op) (K:L→Prop):Prop:=∃ l,lqv P r s.get op l∧K l
section
variable {X:Cx} {ro:Option Nat} {Q:Ex→St→Prop} {K:St→Prop} {t:List L} {r:Regs} {ds:List (Option Tmp)} {rest:List Oper} {ty:TypeId} {ps:String} {af:Array Edge} {dst:Option Tmp}
theorem Jp7 {c:Code}:lwp X ro (.scope c) Q ⟨t,r⟩=lwp X ro c Q ⟨t,r⟩:=(rfl)
theorem e_skip:lwp X ro .skip Q ⟨t,r⟩=Q .normal ⟨t,r⟩:=(rfl)
theorem Jid {id:Nat} {ops:Array Oper}:lwp X ro (.region id ops false) Q ⟨t,r⟩=lops X (ops.toList.map (·.dst)) ops.toList (Q .normal) ⟨t,r⟩:=(rfl)
theorem e_seq {a b:Code}:lwp X ro (a.seq b) Q ⟨t,r⟩=lwp X ro a (kseq (lwp X ro b) Q) ⟨t,r⟩:=(rfl)
theorem e_cond {c:Operand} {a b:Code}:lwp X ro (.cond c a b) Q ⟨t,r⟩=O0 ((St.mk t r).get c) (lwp X ro a Q) (lwp X ro b Q) ⟨t,r⟩:=(rfl)
theorem Jpi {id:Nat} {c:Code}:lwp X ro (.block id c) Q ⟨t,r⟩=lwp X ro c (Nq id Q) ⟨t,r⟩:=(rfl)
theorem e_loop {c:Code}:lwp X ro (.loop c) Q ⟨t,r⟩=SWP X ro (.loop c) Q ⟨t,r⟩:=(rfl)
theorem e_exit {id:Nat}:lwp X ro (.exit id) Q ⟨t,r⟩=Q (.exit id) ⟨t,r⟩:=(rfl)
theorem e_ret:lwp X ro .ret Q ⟨t,r⟩=Q .ret ⟨t,r⟩:=(rfl)
theorem Jng {l:Nat}:lwp X ro (.label l) Q ⟨t,r⟩=Q .normal ⟨t,r⟩:=(rfl)
theorem Wj {B:(Ex→St→Prop)→St→Prop}:kseq B Q .normal ⟨t,r⟩=B Q ⟨t,r⟩:=(rfl)
theorem Jaq {B:(Ex→St→Prop)→St→Prop} {id:Nat}:kseq B Q (.exit id) ⟨t,r⟩=Q (.exit id) ⟨t,r⟩:=(rfl)
theorem Jf3 {B:(Ex→St→Prop)→St→Prop}:kseq B Q .ret ⟨t,r⟩=Q .ret ⟨t,r⟩:=(rfl)
theorem Qz {id:Nat}:Nq id Q .normal ⟨t,r⟩=Q .normal ⟨t,r⟩:=(rfl)
theorem Vo {id id':Nat}:Nq id Q (.exit id') ⟨t,r⟩=if id'=id then Q .normal ⟨t,r⟩ else Q (.exit id') ⟨t,r⟩:=(rfl)
theorem Z2 {id:Nat}:Nq id Q .ret ⟨t,r⟩=Q .ret ⟨t,r⟩:=(rfl)
theorem o_nil:lops X ds [] K ⟨t,r⟩=K ⟨t,r⟩:=(rfl)
theorem o_cons {op:Op}:lops X ds (⟨dst,op,ty,ps,af,none⟩ :: rest) K ⟨t,r⟩=lop X ⟨dst,op,ty,ps,af,none⟩ (lops X ds rest K) ⟨t,r⟩:=(rfl)
theorem Jpg {op:Op} {g:Nat×Bool}:lops X ds (⟨dst,op,ty,ps,af,some g⟩ :: rest) K ⟨t,r⟩=F4 ds (some g) (lop X ⟨dst,op,ty,ps,af,some g⟩ (lops X ds rest K)) (F9 dst (lops X ds rest K)) ⟨t,r⟩:=(rfl)
theorem q_nil:Jf X ds [] K ⟨t,r⟩=K ⟨t,r⟩:=(rfl)
theorem q_cons {op:Op}:Jf X ds (⟨dst,op,ty,ps,af,none⟩ :: rest) K ⟨t,r⟩=lqc X ⟨t,r⟩ ⟨dst,op,ty,ps,af,none⟩ (kput dst (Jf X ds rest K) ⟨t,r⟩):=(rfl)
theorem Joa {op:Op} {g:Nat×Bool}:Jf X ds (⟨dst,op,ty,ps,af,some g⟩ :: rest) K ⟨t,r⟩=F4 ds (some g) (kq X ⟨dst,op,ty,ps,af,some g⟩ (Jf X ds rest K)) (F9 dst (Jf X ds rest K)) ⟨t,r⟩:=(rfl)
theorem q_kq {o:Oper}:kq X o K ⟨t,r⟩=lqc X ⟨t,r⟩ o (kput o.dst K ⟨t,r⟩):=(rfl)
theorem k_put {d:Tmp} {l:L}:kput (some d) K ⟨t,r⟩ l=K ⟨t.set d l,r⟩:=(rfl)
theorem k_unit {d:Tmp}:F9 (some d) K ⟨t,r⟩=K ⟨t.set d (.tup []),r⟩:=(rfl)
theorem W2:F9 none K ⟨t,r⟩=K ⟨t,r⟩:=(rfl)
theorem s_put {d:Tmp} {l:L}:(St.mk t r).put (some d) l=⟨t.set d l,r⟩:=(rfl)
theorem s_tmps:(St.mk t r).tmps=t:=(rfl)
theorem s_regs:(St.mk t r).regs=r:=(rfl)
theorem s_tmp {i:Nat}:(St.mk t r).get (.tmp i)=t.getD i .junk:=(rfl)
theorem Jm9 {v:Value}:(St.mk t r).get (.const v)=G6 v:=(rfl)
theorem s_func {f:FuncId}:(St.mk t r).get (.func f)=.fn f []:=(rfl)
theorem v_bool {b:Bool}:G6 (.bool b)=.p (.bool b):=(rfl)
theorem v_int {k:IntKind} {n:Int}:G6 (.int k n)=.p (.int k n):=(rfl)
theorem v_str {a:Array UInt8}:G6 (.string ⟨a⟩)=.p (.str a.toList):=(rfl)
theorem v_snil:G6 (.slice none 0 0)=.p .snil:=(rfl)
theorem v_nptr:G6 (.pointer none)=.p .nptr:=(rfl)
theorem v_nmap:G6 (.map none)=.p .nmap:=(rfl)
theorem v_nifc:G6 .nilIface=.p .nifc:=(rfl)
theorem v_nfn:G6 .nilFunc=.p .nfn:=(rfl)
variable {g:Option (Nat×Bool)} {d:Tmp}
theorem p_move {x:Operand}:lop X ⟨dst,.move x,ty,ps,af,g⟩ K ⟨t,r⟩=kput dst K ⟨t,r⟩ ((St.mk t r).get x):=by cases dst <;> exact (rfl)
theorem Jl2 {x:Operand}:lop X ⟨dst,.assign x,ty,ps,af,g⟩ K ⟨t,r⟩=kput dst K ⟨t,r⟩ ((St.mk t r).get x):=by cases dst <;> exact (rfl)
theorem p_bin {op:BinOp} {tx ty':TypeId} {x y:Operand}:lop X ⟨dst,.binOp op tx x y ty',ty,ps,af,g⟩ K ⟨t,r⟩=lbin X.P op tx (D8 x || D8 y) ((St.mk t r).get x) ((St.mk t r).get y) (kput dst K ⟨t,r⟩):=by cases dst <;> exact (rfl)
theorem p_un {op:UnOp} {tx:TypeId} {x:Operand}:lop X ⟨dst,.unOp op tx x,ty,ps,af,g⟩ K ⟨t,r⟩=lun op ((St.mk t r).get x) (kput dst K ⟨t,r⟩):=by cases dst <;> exact (rfl)
theorem p_conv {a b:TypeId} {x:Operand}:lop X ⟨dst,.convert a b x,ty,ps,af,g⟩ K ⟨t,r⟩=cvG X.P a b ⟨t,r⟩ x dst K ((St.mk t r).get x):=by cases dst <;> exact (rfl)
theorem p_pick {c a b:Operand}:lop X ⟨dst,.pick c a b,ty,ps,af,g⟩ K ⟨t,r⟩=Jc0 ((St.mk t r).get c) ((St.mk t r).get a) ((St.mk t r).get b) (kput dst K ⟨t,r⟩):=by cases dst <;> exact (rfl)
theorem p_nil {x:Operand}:lop X ⟨dst,.nilCheck x,ty,ps,af,g⟩ K ⟨t,r⟩=lnil ((St.mk t r).get x) (kput dst K ⟨t,r⟩):=by cases dst <;> exact (rfl)
theorem p_load {tx:TypeId} {x:Operand}:lop X ⟨dst,.load tx x,ty,ps,af,g⟩ K ⟨t,r⟩=Jc X.P r tx ((St.mk t r).get x) (kput dst K ⟨t,r⟩):=by cases dst <;> exact (rfl)
theorem Jnh {tx:TypeId} {a x:Operand}:lop X ⟨dst,.store tx a x,ty,ps,af,g⟩ K ⟨t,r⟩=Nv X.P tx ⟨t,r⟩ a x (F9 dst K):=by cases dst <;> exact (rfl)
theorem Xg {tx:TypeId} {x:Operand} {f:Nat}:lop X ⟨dst,.fieldAddr tx x f,ty,ps,af,g⟩ K ⟨t,r⟩=D2 X.P tx ((St.mk t r).get x) f (kput dst K ⟨t,r⟩):=by cases dst <;> exact (rfl)
theorem Yf {tx:TypeId} {x i:Operand}:lop X ⟨dst,.indexAddr tx x i,ty,ps,af,g⟩ K ⟨t,r⟩=Dg X.P r tx ((St.mk t r).get x) ((St.mk t r).get i) (kput dst K ⟨t,r⟩):=by cases dst <;> exact (rfl)
theorem Jnn {tx:TypeId} {x i:Operand}:lop X ⟨dst,.index tx x i,ty,ps,af,g⟩ K ⟨t,r⟩=Ix X.P tx ((St.mk t r).get x) ((St.mk t r).get i) (kput dst K ⟨t,r⟩):=by cases dst <;> exact (rfl)
def slG (P:Program) (o:Oper) (tx:TypeId) (x:Operand) (lo hi:Option Operand) (dst:Option Tmp) (K:St→Prop) (s:St) (l:L):Prop :=
 match l with
 | .ptr d 0 0=>larr P tx s d lo hi (kput dst K) (Am d s.regs)
 | _=>G2 P s.regs tx s.get x lo hi none (kput dst K s)
theorem Jpn {tx:TypeId} {x:Operand} {lo hi:Option Operand}:lop X ⟨dst,.slice tx x lo hi none,ty,ps,af,g⟩ K ⟨t,r⟩=slG X.P ⟨dst,.slice tx x lo hi none,ty,ps,af,g⟩ tx x lo hi dst K ⟨t,r⟩ ((St.mk t r).get x):=by cases dst <;> exact (rfl)
theorem Jf5 {x:Operand} {i:Nat}:lop X ⟨dst,.extract x i,ty,ps,af,g⟩ K ⟨t,r⟩=Qk ((St.mk t r).get x) i (kput dst K ⟨t,r⟩):=by cases dst <;> exact (rfl)
theorem Jm5 {tx:TypeId} {pt:Array (Nat×Operand)}:lop X ⟨dst,.build tx pt,ty,ps,af,g⟩ K ⟨t,r⟩=Vf X.P tx (pt.toList.map fun (i,x)=>(i,(St.mk t r).get x)) (kput dst K ⟨t,r⟩):=by cases dst <;> exact (rfl)
theorem Jb7 {f:FuncId} {caps:Array Operand}:lop X ⟨dst,.makeFunc (.func f) #[] caps,ty,ps,af,g⟩ K ⟨t,r⟩=Jmn f (caps.toList.map (St.mk t r).get) (kput dst K ⟨t,r⟩):=by cases dst <;> simp only [lop,lq,true_and]
theorem p_len {x:Operand} {tx:TypeId}:lop X ⟨dst,.call { callee:=.builtin .len,args:=#[x],argTypes:=#[tx] },ty,ps,af,g⟩ K ⟨t,r⟩=llen X.P tx ((St.mk t r).get x) (kput dst K ⟨t,r⟩):=by cases dst <;> exact (rfl)
theorem p_max {args:Array Operand} {ats:Array TypeId}:lop X ⟨dst,.call { callee:=.builtin .max,args:=args,argTypes:=ats },ty,ps,af,g⟩ K ⟨t,r⟩=Fj true (args.toList.map (St.mk t r).get) (kput dst K ⟨t,r⟩):=by cases dst <;> exact (rfl)
theorem Jn4 {T:TypeId}:lop X ⟨some d,.alloc T,ty,ps,af,g⟩ K ⟨t,r⟩=Wg X.P d T ⟨t,r⟩ K:=(rfl)
theorem p_box {T:TypeId} {x:Operand}:lop X ⟨some d,.box T x,ty,ps,af,g⟩ K ⟨t,r⟩=lbox d T ⟨t,r⟩ x K:=(rfl)
theorem V7 {tx:TypeId} {n:Nat} {pt:Array (Nat×Operand)}:lop X ⟨some d,.buildSlice tx n pt,ty,ps,af,g⟩ K ⟨t,r⟩=(if X.keep tx=true then n=pt.toList.length∧Jw0 X.P d tx ⟨t,r⟩ pt.toList K else Fo X.P d tx n ⟨t,r⟩ pt.toList K):=(rfl)
theorem Jms {x y:Operand} {t1 t2:TypeId}:lop X ⟨some d,.call { callee:=.builtin .append,args:=#[x,y],argTypes:=#[t1,t2] },ty,ps,af,g⟩ K ⟨t,r⟩=(if X.keep t1=true then t2=t1∧Jyq X.P d t1 ⟨t,r⟩ x y K else Kk X.P d t1 t2 ⟨t,r⟩ x y K):=(rfl)
theorem p_call {f:Operand} {args:Array Operand} {ats:Array TypeId}:lop X ⟨dst,.call { callee:=.value f,args:=args,argTypes:=ats },ty,ps,af,g⟩ K ⟨t,r⟩=Jc1 X ⟨t,r⟩ f args.toList dst K:=by cases dst <;> exact (rfl)
theorem Jgq {tx:TypeId}:lop X ⟨some d,.makeMap tx none,ty,ps,af,g⟩ K ⟨t,r⟩=Mk d ⟨t,r⟩ K:=(rfl)
theorem Jp6 {tx:TypeId} {x:Operand}:lop X ⟨some d,.range tx x,ty,ps,af,g⟩ K ⟨t,r⟩=Wr X.P d tx ⟨t,r⟩ x K:=(rfl)
theorem p_next {it:Operand} {b:Bool}:lop X ⟨dst,.next it b,ty,ps,af,g⟩ K ⟨t,r⟩=Wv ⟨t,r⟩ it b (kput dst K):=by cases dst <;> exact (rfl)
theorem Jn8 {it:Operand}:lop X ⟨dst,.entry it,ty,ps,af,g⟩ K ⟨t,r⟩=Ri ⟨t,r⟩ it (kput dst K ⟨t,r⟩):=by cases dst <;> exact (rfl)
theorem Zf {tx:TypeId} {m k v:Operand}:lop X ⟨dst,.mapUpdate tx m k v,ty,ps,af,g⟩ K ⟨t,r⟩=Dq X.P tx ⟨t,r⟩ m k v (F9 dst K):=by cases dst <;> exact (rfl)
theorem Ji2 {tx:TypeId} {m k v:Operand}:lop X ⟨dst,.insert tx m k v,ty,ps,af,g⟩ K ⟨t,r⟩=Dq X.P tx ⟨t,r⟩ m k v (F9 dst K):=by cases dst <;> exact (rfl)
theorem Jkk {m k:Operand} {t1 t2:TypeId}:lop X ⟨dst,.call { callee:=.builtin .delete,args:=#[m,k],argTypes:=#[t1,t2] },ty,ps,af,g⟩ K ⟨t,r⟩=Kq X.P t1 ⟨t,r⟩ m k (F9 dst K):=by cases dst <;> exact (rfl)
def usR (P:Program) (o:Option TypeDesc) (d:Nat) (n:Int) (s:St) (N:St→L→Prop) (q:Option Reg):Prop :=
 match q with
 | some (.row T 1 es)=>o=some (.pointer T)∧P.cellsOf T=1∧∃ bs,Cw es=some bs∧n=bs.length∧bs≠[]∧bs.length≤9223372036854775807∧N (s.forget d) (.p (.str bs))
 | _=>False
def usT (P:Program) (o:Option TypeDesc) (d:Nat) (s:St) (N:St→L→Prop) (ly:L):Prop :=
 match ly with
 | .p (.int .i64 n)=>usR P o d n s N (Am d s.regs)
 | _=>False
def Jd1 (X:Cx) (t1:TypeId) (dst:Option Tmp) (y:Operand) (K:St→Prop) (s:St) (l:L):Prop :=
 match l with
 | .p .nptr=>(∃ k,s.get y=.p (.int k 0))∧K (s.put dst (.p (.str [])))
 | .ptr d 0 0=>usT X.P (X.P.underlying t1) d s (kput dst K) (s.get y)
 | _=>False
theorem p_ustr {x y:Operand} {t1 t2:TypeId}:lop X ⟨dst,.call { callee:=.builtin .unsafeString,args:=#[x,y],argTypes:=#[t1,t2] },ty,ps,af,g⟩ K ⟨t,r⟩=Jd1 X t1 dst y K ⟨t,r⟩ ((St.mk t r).get x):=by
 have h:lop X ⟨dst,.call { callee:=.builtin .unsafeString,args:=#[x,y],argTypes:=#[t1,t2] },ty,ps,af,g⟩ K ⟨t,r⟩=Jd6 X ⟨dst,.call { callee:=.builtin .unsafeString,args:=#[x,y],argTypes:=#[t1,t2] },ty,ps,af,g⟩ dst [x,y] [t1,t2] ⟨t,r⟩ K:=by cases dst <;> exact (rfl)
 rw [h];unfold Jd6 Jd1;simp only;split
 ·rename_i hx;rw [hx];apply propext;constructor
  ·rintro ⟨l,⟨_,h1,rfl⟩,hK⟩;exact ⟨h1,hK⟩
  ·rintro ⟨h1,hK⟩;exact ⟨_,⟨hx,h1,rfl⟩,hK⟩
 ·rename_i hx;split
  ·rename_i hy;exact absurd hy hx
  ·rename_i d hy;unfold Gn usT usR;rw [hy];cases hq:(St.mk t r).get y with
   | p v =>
    cases v with
    | int k n=>cases k <;> rfl
    | _=>rfl
   | _=>rfl
  ·rename_i h1 h2;unfold Gn;cases hq:(St.mk t r).get x with
   | ptr d i j =>
    cases i with
    | zero=>cases j with
     | zero=>exact absurd hq (h2 d)
     | succ j=>rfl
    | succ i=>rfl
   | _=>rfl
theorem Jpz {tx:TypeId} {x:Operand}:lop X ⟨dst,.makeInterface tx x,ty,ps,af,g⟩ K ⟨t,r⟩=lqvK X.P r ⟨t,r⟩ (.makeInterface tx x) (kput dst K ⟨t,r⟩):=by cases dst <;> exact (rfl)
theorem Ji3 {tx:TypeId} {x i:Operand} {b:Bool}:lop X ⟨dst,.lookup tx x i b,ty,ps,af,g⟩ K ⟨t,r⟩=lqvK X.P r ⟨t,r⟩ (.lookup tx x i b) (kput dst K ⟨t,r⟩):=by cases dst <;> exact (rfl)
theorem p_cap {x:Operand} {tx:TypeId}:lop X ⟨dst,.call { callee:=.builtin .cap,args:=#[x],argTypes:=#[tx] },ty,ps,af,g⟩ K ⟨t,r⟩=lqvK X.P r ⟨t,r⟩ (.call { callee:=.builtin .cap,args:=#[x],argTypes:=#[tx] }) (kput dst K ⟨t,r⟩):=by cases dst <;> exact (rfl)
variable {C:L→Prop}
theorem q_move {x:Operand}:lqc X ⟨t,r⟩ ⟨dst,.move x,ty,ps,af,g⟩ C=C ((St.mk t r).get x):=(rfl)
theorem Ji7 {x:Operand}:lqc X ⟨t,r⟩ ⟨dst,.assign x,ty,ps,af,g⟩ C=C ((St.mk t r).get x):=(rfl)
theorem q_bin {op:BinOp} {tx ty':TypeId} {x y:Operand}:lqc X ⟨t,r⟩ ⟨dst,.binOp op tx x y ty',ty,ps,af,g⟩ C=lbin X.P op tx (D8 x || D8 y) ((St.mk t r).get x) ((St.mk t r).get y) C:=(rfl)
theorem q_un {op:UnOp} {tx:TypeId} {x:Operand}:lqc X ⟨t,r⟩ ⟨dst,.unOp op tx x,ty,ps,af,g⟩ C=lun op ((St.mk t r).get x) C:=(rfl)
theorem q_conv {a b:TypeId} {x:Operand}:lqc X ⟨t,r⟩ ⟨dst,.convert a b x,ty,ps,af,g⟩ C=J1 X.P a b ((St.mk t r).get x) C:=(rfl)
theorem q_pick {c a b:Operand}:lqc X ⟨t,r⟩ ⟨dst,.pick c a b,ty,ps,af,g⟩ C=Jc0 ((St.mk t r).get c) ((St.mk t r).get a) ((St.mk t r).get b) C:=(rfl)
theorem Jb4 {x:Operand}:lqc X ⟨t,r⟩ ⟨dst,.nilCheck x,ty,ps,af,g⟩ C=lnil ((St.mk t r).get x) C:=(rfl)
theorem q_load {tx:TypeId} {x:Operand}:lqc X ⟨t,r⟩ ⟨dst,.load tx x,ty,ps,af,g⟩ C=Jc X.P r tx ((St.mk t r).get x) C:=(rfl)
theorem Za {tx:TypeId} {x:Operand} {f:Nat}:lqc X ⟨t,r⟩ ⟨dst,.fieldAddr tx x f,ty,ps,af,g⟩ C=D2 X.P tx ((St.mk t r).get x) f C:=(rfl)
theorem W3 {tx:TypeId} {x i:Operand}:lqc X ⟨t,r⟩ ⟨dst,.indexAddr tx x i,ty,ps,af,g⟩ C=Dg X.P r tx ((St.mk t r).get x) ((St.mk t r).get i) C:=(rfl)
theorem Jp9 {tx:TypeId} {x i:Operand}:lqc X ⟨t,r⟩ ⟨dst,.index tx x i,ty,ps,af,g⟩ C=Ix X.P tx ((St.mk t r).get x) ((St.mk t r).get i) C:=(rfl)
theorem Jo0 {tx:TypeId} {x:Operand} {lo hi mx:Option Operand}:lqc X ⟨t,r⟩ ⟨dst,.slice tx x lo hi mx,ty,ps,af,g⟩ C=G2 X.P r tx (St.mk t r).get x lo hi mx C:=(rfl)
theorem Jhf {x:Operand} {i:Nat}:lqc X ⟨t,r⟩ ⟨dst,.extract x i,ty,ps,af,g⟩ C=Qk ((St.mk t r).get x) i C:=(rfl)
theorem q_len {x:Operand} {tx:TypeId}:lqc X ⟨t,r⟩ ⟨dst,.call { callee:=.builtin .len,args:=#[x],argTypes:=#[tx] },ty,ps,af,g⟩ C=llen X.P tx ((St.mk t r).get x) C:=(rfl)
theorem Jmo {tx:TypeId} {x i:Operand} {b:Bool}:lqc X ⟨t,r⟩ ⟨dst,.lookup tx x i b,ty,ps,af,g⟩ C=lqvK X.P r ⟨t,r⟩ (.lookup tx x i b) C:=(rfl)
theorem q_usd {x:Operand} {tx:TypeId}:lqc X ⟨t,r⟩ ⟨dst,.call { callee:=.builtin .unsafeSliceData,args:=#[x],argTypes:=#[tx] },ty,ps,af,g⟩ C=lqvK X.P r ⟨t,r⟩ (.call { callee:=.builtin .unsafeSliceData,args:=#[x],argTypes:=#[tx] }) C:=(rfl)
theorem q_call {f:FuncId} {args:Array Operand} {ats:Array TypeId}:lqc X ⟨t,r⟩ ⟨dst,.call { callee:=.value (.func f),args:=args,argTypes:=ats },ty,ps,af,g⟩ C=Bi X f (args.toList.map (St.mk t r).get) C:=(rfl)
end
def Det (X:Cx) (f:FuncId) (args:List L) (rs:Regs) (l:L) (rs':Regs):Prop:=Al X f args rs fun m q=>m=l∧q=rs'
theorem Jqa {X:Cx} {f:FuncId} {args:List L} {rs:Regs} {l:L} {rs':Regs} {Post:L→Regs→Prop} (h:Det X f args rs l rs') (hp:Post l rs'):Al X f args rs Post :=
 h.mono fun m q ⟨h1,h2⟩=>by subst h1;subst h2;exact hp
theorem Jqe {X:Cx} {f:FuncId} {args:List L} {l:L} {C:L→Prop} (h:Det X f args [] l []) (hp:C l) (hr:l.retOK=true:=by rfl):Bi X f args C:=⟨l,⟨h.mono fun _ _ h=>h.1,hr⟩,hp⟩
theorem Ka4 {X:Cx} {g:FuncId} {args:List L} {l:L} {s:St} {dst:Option Tmp} {K:St→Prop} (h:Ad X g args s.regs l) (hK:K (s.put dst l)):Jkt X g args s dst K:=⟨l,h,hK⟩
theorem Jxk {X:Cx} {g:FuncId} {args:List L} {l:L} {s:St} {dst:Option Tmp} {K:St→Prop} (h:Ag X g args l) (hK:K (s.put dst l)):lext X g args s dst K:=⟨l,h,hK⟩
theorem Aa {n:Int} (h1:-9223372036854775808≤n) (h2:n≤9223372036854775807):IntKind.i64.wrap n=n:=by
 have e:IntKind.i64.wrap n=if n % 18446744073709551616 ≥ 9223372036854775808 then n % 18446744073709551616 - 18446744073709551616 else n % 18446744073709551616:=by
  simp [IntKind.wrap,IntKind.signed,IntKind.bits]
 rw [e];split <;> omega
theorem Qs {n:Int} (h1:-2147483648≤n) (h2:n≤2147483647):IntKind.i32.wrap n=n:=by
 have e:IntKind.i32.wrap n=if n % 4294967296 ≥ 2147483648 then n % 4294967296 - 4294967296 else n % 4294967296:=by
  simp [IntKind.wrap,IntKind.signed,IntKind.bits]
 rw [e];split <;> omega
theorem Be (n:Int):IntKind.u8.wrap n=n % 256:=by simp [IntKind.wrap,IntKind.signed,IntKind.bits]
theorem Ec (n:Int):IntKind.u32.wrap n=n % 4294967296:=by simp [IntKind.wrap,IntKind.signed,IntKind.bits]
theorem Ub (n:Int):IntKind.u64.wrap n=n % 18446744073709551616:=by simp [IntKind.wrap,IntKind.signed,IntKind.bits]
theorem Ab {n:Int} (h1:0≤n) (h2:n≤255):IntKind.u8.wrap n=n:=by rw [Be];omega
theorem Jlh {n:Int} (h1:0≤n) (h2:n≤4294967295):IntKind.u32.wrap n=n:=by rw [Ec];omega
theorem Mf {n:Int} (h1:0≤n) (h2:n≤18446744073709551615):IntKind.u64.wrap n=n:=by rw [Ub];omega
theorem ex_map {α γ:Type} {l:List α} {f:α→γ} {i:Nat} {Q:γ→Prop}:(∃ e,(l.map f)[i]? = some e∧Q e) = ∃ a,l[i]? = some a∧Q (f a):=by
 rw [List.getElem?_map];apply propext;constructor
 ·rintro ⟨e,he,hq⟩;obtain ⟨a,ha,rfl⟩:=Option.map_eq_some_iff.1 he;exact ⟨a,ha,hq⟩
 ·rintro ⟨a,ha,hq⟩;exact ⟨f a,by rw [ha];rfl,hq⟩
def Rb (K:PV→Prop) (m:L):Prop :=
 match m with
 | .p x=>K x
 | _=>False
def H4 (P:Program) (s:St):List ResultVar→(List PV→Prop)→Prop
 | [],K=>K []
 | .tmp t :: l,K=>Rb (fun x=>H4 P s l fun xs=>K (x :: xs)) (s.tmps.getD t .junk)
 | .cell t T :: l,K=>Jc P s.regs T (s.tmps.getD t .junk) (Rb fun x=>H4 P s l fun xs=>K (x :: xs))
def Gm:List ResultVar→List Operand
 | []=>[]
 | .tmp t :: l=>.tmp t :: Gm l
 | .cell _ _ :: l=>Gm l
def Sg:List PV→L
 | [x]=>.p x
 | xs=>.tup xs
def Cu:List Nat→Regs→Regs
 | [],_=>[]
 | d :: ds,rs=>match Am d rs with
  | some r=>(d,r) :: Cu ds rs
  | none=>Cu ds rs
def kres (keys:List Nat) (Post:L→Regs→Prop) (rs:Regs) (xs:List PV):Prop:=Post (Sg xs) (Cu (900 :: keys) rs)
def Jdn (keys:List Nat) (Post:L→Regs→Prop) (rs:Regs) (l:L):Prop:=Post l (Cu (900 :: keys) rs)
def lretF (P:Program) (rvs:List ResultVar) (keys:List Nat) (Post:L→Regs→Prop) (s:St):Prop :=
 H4 P (s.freezeOps (Gm rvs)) rvs (kres keys Post (s.freezeOps (Gm rvs)).regs)
def Jdm (P:Program) (rvs:List ResultVar) (keys:List Nat) (Post:L→Regs→Prop) (s:St):Prop :=
 match rvs with
 | [.tmp t]=>Jdn keys Post s.regs (s.tmps.getD t .junk)
 | [.cell t T]=>Jc P s.regs T (s.tmps.getD t .junk) (Jdn keys Post s.regs)
 | _=>False
def Yo (d n:Nat) (s:St):St :=
 match findKey d s.regs with
 | true=>s.ren d n
 | false=>s
def Du:List (Nat×Nat)→St→St
 | [],s=>s
 | (d,n) :: l,s=>Du l (Yo d n s)
def O7 (P:Program) (own:Bool) (rvs:List ResultVar) (keys:List Nat) (Post:L→Regs→Prop) (s:St):Prop :=
 match own with
 | false=>lretF P rvs keys Post s
 | true=>Jdm P rvs keys Post s
def Jed (P:Program) (own:Bool) (rn:List (Nat×Nat)) (rvs:List ResultVar) (keys:List Nat) (Post:L→Regs→Prop):Ex→St→Prop
 | .normal,s=>O7 P own rvs keys Post (Du rn s)
 | .ret,s=>O7 P own rvs keys Post (Du rn s)
 | .exit _,_=>False
theorem Cf {d:Nat} {r:Reg}:∀ {ds:List Nat} {rs:Regs},(d,r)∈Cu ds rs→d∈ds∧(d,r)∈rs
 | [],_,h=>by cases h
 | e :: ds,rs,h=>by
  simp only [Cu] at h;split at h
  ·rename_i q hq;rcases List.mem_cons.1 h with h | h
   ·cases h;exact ⟨List.mem_cons_self,Ax hq⟩
   ·exact ⟨List.mem_cons_of_mem _ (Cf h).1,(Cf h).2⟩
  ·exact ⟨List.mem_cons_of_mem _ (Cf h).1,(Cf h).2⟩
theorem He:∀ (ds:List Nat) (rs:Regs),((Cu ds rs).map (·.1)).Sublist ds
 | [],_=>.slnil
 | e :: ds,rs=>by
  simp only [Cu];split
  ·exact (He ds rs).cons_cons e
  ·exact (He ds rs).cons e
theorem B1:∀ (l:List (Nat×Nat)) (s:St),(∀ x∈l,x.2<1000∨500000≤x.2)→s.Le (Du l s)
 | [],s,_=>St.Le.refl s
 | (d,n) :: l,s,h=>by
  simp only [Du];refine St.Le.trans ?_ (B1 l _ fun x hx=>h x (List.mem_cons_of_mem _ hx));unfold Yo;split
  ·exact J5u s (h _ List.mem_cons_self)
  ·exact St.Le.refl s
theorem Pb {P:Program} {t:TypeId} {u v:Value} {w:World} (h:(Instr.loadAt t u).run P w=.ok v w):(do loadVar t (← asAddr u):Sem Value).run P w=.ok v w:=by
 unfold Instr.loadAt Instr.sureAddr at h;cases u <;> simp_all [asAddr];rename_i a;cases a <;> simp_all
theorem Ic {P:Program} {β:Env} {w:World} {Im:Nat→Prop} {s:St} {a:Act} (hf:Fit β w Im s a.tmps) (g:ResultVar→Sem Value) (hg1:∀ t,g (.tmp t)=pure (a.tmps.getD t undef)) (hg2:∀ t T,g (.cell t T)=do loadVar T (← asAddr (a.tmps.getD t undef))) :
  ∀ (rvs:List ResultVar) (K:List PV→Prop),H4 P s rvs K→∃ vs xs,(rvs.mapM g).run P w=.ok vs w∧K xs∧vs.length=xs.length∧∀ (i:Nat) (v:Value) (x:PV),vs[i]? = some v→xs[i]? = some x→PRep w Im v x
 | [],K,h=>⟨[],[],by simp,h,rfl,fun i v x hv=>by simp at hv⟩
 | .tmp t :: l,K,h=>by
  simp only [H4] at h;unfold Rb at h;split at h
  ·rename_i x hx;obtain ⟨vs,xs,h1,h2,h3,h4⟩:=Ic hf g hg1 hg2 l _ h;refine ⟨a.tmps.getD t undef :: vs,x :: xs,?_,h2,by simp [h3],fun i v y hv hy=>?_⟩
   ·simp only [List.mapM_cons,hg1,Sem.run_bind,Sem.run_pure,Result.andThen_ok,h1]
   ·cases i with
    | zero =>
     simp at hv hy;subst hv;subst hy;have:=A2 hf (.tmp t);simp only [St.get,hx] at this;simpa [LRep,Act.eval,Array.getD_eq_getD_getElem?] using this
    | succ i=>simp at hv hy;exact h4 i v y hv hy
  ·exact h.elim
 | .cell t T :: l,K,h=>by
  simp only [H4] at h;have hr:=A2 hf (.tmp t);obtain ⟨v,m,hv,hm,hK⟩:=Jk hf hr h;unfold Rb at hK;split at hK
  ·rename_i x;obtain ⟨vs,xs,h1,h2,h3,h4⟩:=Ic hf g hg1 hg2 l _ hK;refine ⟨v :: vs,x :: xs,?_,h2,by simp [h3],fun i u y hu hy=>?_⟩
   ·have:=Pb hv;have e:a.eval (.tmp t)=a.tmps.getD t undef:=rfl;rw [e] at this;rw [List.mapM_cons];simp only [Sem.run_bind,hg2] at this ⊢;rw [this];simp only [Result.andThen_ok,h1,Sem.run_pure]
   ·cases i with
    | zero=>simp at hu hy;subst hu;subst hy;exact hm
    | succ i=>simp at hu hy;exact h4 i u y hu hy
  ·exact hK.elim
def Qd (tmps:Array Value):ResultVar→Sem Value
 | .tmp t=>pure (tmps.getD t undef)
 | .cell b T=>do loadVar T (← asAddr (tmps.getD b undef))
theorem G9 {P:Program} {fn:Func} {tmps:Array Value} {w:World} {vs:List Value} (h:(fn.results.toList.mapM (Qd tmps)).run P w=.ok vs w) :
  (results fn tmps).run P w=.ok (if h:vs.length=1 then vs[0] else .tuple ⟨vs⟩) w:=by
 have e:results fn tmps=(do
   let vs ← fn.results.mapM (Qd tmps)
   pure (if h:vs.size=1 then vs[0] else .tuple vs)):=by
  unfold results;congr 1
 rw [e,Array.mapM_eq_mapM_toList];simp only [Sem.run_bind,Sem.run_map,h,Result.andThen_ok,Sem.run_pure];rfl
theorem RRx.shut {Γ:Base} {β:Env} {Im:Nat→Prop} {s:St} {tmps:Array Value} {w:World} {D:Nat} {ms:List Nat} (h:RRx (Γ.wm (D :: ms)) β Im s tmps w):RRx (Γ.wm ms) β Im s tmps (w.putObj D (.deferred none)):=by
 obtain ⟨m1,m2,m3,m4⟩:=h.marks D List.mem_cons_self;have hlt:=(Array.getElem?_eq_some_iff.1 m1).1;have hnd:D ∉ ms∧ms.Nodup:=List.nodup_cons.1 h.mnod;have hoth:∀ k,k≠D→(w.putObj D (.deferred none)).heap[k]? = w.heap[k]?:=fun k hk=>World.putObj_heap_other hk
 have hk:Keeps w Im (w.putObj D (.deferred none)) Im:=⟨fun _ h=>h,fun b hb=>hoth b fun e=>m2 (e ▸ hb)⟩
 refine {
     fit:={ size:=h.fit.size,tmps:=fun i l hl=>(h.fit.tmps i l hl).mono' hk,regs:=fun d r hr=>(h.fit.regs d r hr).mono hk rfl (fun _ _=>rfl) fun loc hl=>hoth _ (m4 d r loc hr hl),nodup:=h.fit.nodup,live:=fun d r loc hr hl=>by rw [World.putObj_size];exact h.fit.live d r loc hr hl,apart:=h.fit.apart,im:=fun b hb=>by rw [World.putObj_size];exact h.fit.im b hb }
     os:=h.os,tape:=h.tape,output:=h.output,size:=by rw [World.putObj_size];exact h.size,block:=fun k hk' hm=>?_,imin:=h.imin,imnew:=h.imnew,regnew:=h.regnew,fixed:=h.fixed,glob:=Γ.mono hk h.glob,mnod:=hnd.2,marks:=fun E hE=>?_ }
 ·have m3':Γ.W0.heap.size≤D:=m3;have hk2:k<Γ.W0.heap.size:=hk';rw [hoth k omg];exact h.block k hk' hm
 ·obtain ⟨n1,n2,n3,n4⟩:=h.marks E (List.mem_cons_of_mem _ hE);exact ⟨(hoth E fun e=>hnd.1 (e ▸ hE)).trans n1,n2,n3,n4⟩
theorem Ie {F:Fence} {n:Nat} {P:Program} {fn:Func} {R:Ending→World→Prop} {Γ:Base} {β:Env} {Im:Nat→Prop} {s:St} {tmps:Array Value}:∀ (ms:List Nat) (w:World),RRx (Γ.wm ms) β Im s tmps w →
  (∀ w',RRx (Γ.wm []) β Im s tmps w'→∃ v,(results fn tmps).run P w'=.ok v w'∧R (.returned v) w')→LeavesInM F n P fn tmps R (ms.map F6) .returning w
 | [],w,h,hf=>hf w h
 | D :: ms,w,h,hf=>by
  obtain ⟨m1,_⟩:=h.marks D List.mem_cons_self;exact ⟨by simp,.inl ⟨D,_,rfl,run_takeDeferred m1,Ie ms _ h.shut hf⟩⟩
theorem Jwo {X:Cx} {f:FuncId} {fn:Func} {c:Code} {args:List L} {rs:Regs} {Post:L→Regs→Prop} (own:Bool) (rn:List (Nat×Nat)) (hrn:∀ x∈rn,x.2<1000∨500000≤x.2) (hf:X.P.funcs[f]? = some fn) (hname:(fn.name == "runtime.NumGoroutine")=false) (hb:fn.body=some c)
  (h900:900 ∉ rs.map (·.1)) (h:SWP X none c (Jed X.P own rn fn.results.toList (rs.map (·.1)) Post) ⟨args ++ List.replicate (fn.ntmps - args.length) .junk,rs⟩):Al X f args rs Post:=by
 refine ⟨enters_of hf hname hb,fun β Im w vs hglob hfit=>?_⟩;have hvl:vs.length=args.length:=by simpa using hfit.size
 refine callsIn_wide.1 (callsIn_of_wp_marks (n:=1) (F:=Fence.wide) hf hb trivial ?_);let Γ:Base:=⟨w,β,Im,fun k=>∃ d r loc,(d,r)∈rs∧β d=some loc∧loc.blk=k,[],X.G,X.mono⟩
 have hr0:RR Γ ⟨args ++ List.replicate (fn.ntmps - args.length) .junk,rs⟩ { tmps:=(⟨vs⟩:Array Value) ++ Array.replicate (fn.ntmps - (⟨vs⟩:Array Value).size) undef,defers:=[] } w:=by
  refine ⟨[],rfl,β,Im,{ fit:={ size:=?_,tmps:=fun i l hl=>?_,regs:=hfit.regs,nodup:=hfit.nodup,live:=hfit.live,apart:=hfit.apart,im:=hfit.im },os:=rfl,tape:=rfl,output:=rfl,size:=Nat.le_refl _,block:=fun _ _ _=>rfl,imin:=fun _ h=>h,imnew:=fun _ h=>.inl h,regnew:=fun d r loc hd hl=>.inr ⟨d,r,loc,hd,hl,rfl⟩,fixed:=fun _ _ _=>rfl,glob:=hglob,mnod:=.nil,marks:=fun D hD=>(by cases hD) }⟩
  ·simp [hvl]
  ·by_cases hi:i<args.length
   ·simp only at hl;rw [List.getElem?_append_left hi] at hl;have:=hfit.tmps i l hl;have e:((⟨vs⟩:Array Value) ++ Array.replicate (fn.ntmps - (⟨vs⟩:Array Value).size) undef).getD i undef=(⟨vs⟩:Array Value).getD i undef:=by
     simp only [Array.getD_eq_getD_getElem?];rw [Array.getElem?_append_left (by simp;omega)]
    rw [e];exact this
   ·simp only at hl;rw [List.getElem?_append_right omg,List.getElem?_replicate] at hl;split at hl
    ·cases hl;trivial
    ·cases hl
 have hw:=h Γ _ w (J7i rfl) hr0;refine wpIn_mono (show c.wpIn Fence.wide 1 X.P _ _ _ from hw) fun e a w' hq=>?_
 have step:∀ {β':Env} {Im':Nat→Prop} {s:St} {tmps:Array Value} {w':World},RRx (Γ.wm []) β' Im' s tmps w'→CallStep β w Im rs β' w' Im' (Cu (900 :: rs.map (·.1)) s.regs):=by
  intro β' Im' s tmps w' hx;refine { os:=hx.os,tape:=hx.tape,output:=hx.output,size:=hx.size,block:=fun k hk' hne=>hx.block k hk' (fun ⟨d,r,loc,h1,h2,h3⟩=>hne d r loc h1 h2 h3),imin:=hx.imin,imnew:=hx.imnew,env:=hx.fixed,keys:=fun d r hd=>?_,regnew:=fun d r loc hd hl=>hx.regnew d r loc (Cf hd).2 hl,fit:=?_ }
  ·rcases List.mem_cons.1 (Cf hd).1 with h | h
   ·exact .inl h
   ·obtain ⟨⟨d',r'⟩,h1,rfl⟩:=List.mem_map.1 h;exact .inr ⟨r',h1⟩
  ·exact { size:=rfl,tmps:=fun i l h=>by simp at h,regs:=fun d r hd=>hx.fit.regs d r (Cf hd).2,nodup:=(He _ _).nodup (List.nodup_cons.2 ⟨h900,hfit.nodup⟩),live:=fun d r loc hd hl=>hx.fit.live d r loc (Cf hd).2 hl,apart:=fun d r d' r' l1 l2 hd hd' hne h1 h2=>hx.fit.apart d r d' r' l1 l2 (Cf hd).2 (Cf hd').2 hne h1 h2,im:=hx.fit.im }
 have fin:∀ s,O7 X.P own fn.results.toList (rs.map (·.1)) Post (Du rn s)→RR Γ s a w'→LeavesInM Fence.wide 1 X.P fn a.tmps (fun e w'=>∃ v l rs' β' Im',e=.returned v∧Post l rs'∧LRep β' w' Im' v l∧CallStep β w Im rs β' w' Im' rs') a.defers .returning w':=by
  intro s hl hr;obtain ⟨ms,hdef,β',Im0,hx0⟩:=B1 rn s hrn Γ a w' hr;generalize Du rn s=s at hl hx0;rw [hdef];unfold O7 at hl;split at hl
  ·obtain ⟨Im',hx⟩:=RRx.freezeOps (Gm fn.results.toList) hx0;unfold lretF at hl;refine Ie ms _ hx fun w2 hx2=>?_
   obtain ⟨vs,xs,h1,hP,h3,h4⟩:=Ic (P:=X.P) hx2.fit (a:={ tmps:=a.tmps,defers:=[] }) (Qd a.tmps) (fun _=>rfl) (fun _ _=>rfl) _ _ hl;have hrun:=G9 (P:=X.P) (fn:=fn) h1;refine ⟨_,hrun,_,Sg xs,_,β',Im',rfl,hP,?_,step hx2⟩;split
   ·rename_i h
    match vs,xs,h,h3,h4 with
    | [v],[x],_,_,h4=>exact h4 0 v x rfl rfl
   ·rename_i h;have:Sg xs=.tup xs:=by
     match xs with
     | []=>rfl
     | [x]=>exact absurd h3 h
     | _ :: _ :: _=>rfl
    rw [this];exact ⟨vs,rfl,h3,h4⟩
  ·refine Ie ms _ hx0 fun w2 hx2=>?_
   unfold Jdm at hl;split at hl
   ·rename_i t hres;have h1:(fn.results.toList.mapM (Qd a.tmps)).run X.P w2=.ok [a.tmps.getD t undef] w2:=by rw [hres];simp [Qd]
    have hrun:=G9 (P:=X.P) (fn:=fn) h1;have hrep:=A2 (a:={ tmps:=a.tmps,defers:=[] }) hx2.fit (.tmp t);exact ⟨_,hrun,_,_,_,β',Im0,rfl,hl,hrep,step hx2⟩
   ·rename_i t T hres;have hrep:=A2 (a:={ tmps:=a.tmps,defers:=[] }) hx2.fit (.tmp t);obtain ⟨v,m,hv,hm,hK⟩:=Jk (P:=X.P) (a:={ tmps:=a.tmps,defers:=[] }) hx2.fit hrep hl;have h1:(fn.results.toList.mapM (Qd a.tmps)).run X.P w2=.ok [v] w2:=by
     rw [hres];have:=Pb hv;simp only [List.mapM_cons,List.mapM_nil,Qd,Sem.run_bind] at this ⊢;have e:({ tmps:=a.tmps,defers:=[] }:Act).eval (.tmp t)=a.tmps.getD t undef:=rfl;rw [e] at this;rw [this];simp
    have hrun:=G9 (P:=X.P) (fn:=fn) h1;exact ⟨_,hrun,_,m,_,β',Im0,rfl,hK,hm,step hx2⟩
   ·exact hl.elim
 cases e with
 | normal=>obtain ⟨s,h1,h2⟩:=hq;exact fin s h1 h2
 | ret=>obtain ⟨s,h1,h2⟩:=hq;exact fin s h1 h2
 | exit id=>obtain ⟨s,h1,h2⟩:=hq;exact h1.elim
 | goto l=>exact hq.elim
 | panic c=>exact hq.elim
 | outgrown=>exact hq.elim
section
variable {P:Program} {rvs:List ResultVar} {keys:List Nat} {Post:L→Regs→Prop} {t:List L} {r:Regs} {own:Bool} {rn:List (Nat×Nat)}
theorem Vy:Jed P own rn rvs keys Post .normal ⟨t,r⟩=O7 P own rvs keys Post (Du rn ⟨t,r⟩):=(rfl)
theorem Jhr:Jed P own rn rvs keys Post .ret ⟨t,r⟩=O7 P own rvs keys Post (Du rn ⟨t,r⟩):=(rfl)
end
def Ba (n:Nat):List (Nat×L)→List L
 | []=>List.replicate n .junk
 | (i,l) :: ws=>(Ba n ws).set i l
theorem Cg (n:Nat):∀ ws,(Ba n ws).length=n
 | []=>by simp [Ba]
 | (i,l) :: ws=>by simp [Ba,Cg n ws]
theorem Je3 {n i:Nat} {l:L} {ws:List (Nat×L)}:(Ba n ws).set i l=Ba n ((i,l) :: ws):=(rfl)
theorem Ao {n i j:Nat} {l:L} {ws:List (Nat×L)}:(Ba n ((i,l) :: ws)).getD j .junk=if i=j then (if i<n then l else .junk) else (Ba n ws).getD j .junk:=by
 simp only [Ba,List.getD_eq_getElem?_getD,List.getElem?_set,Cg];split
 ·rename_i h;subst h;split <;> rfl
 ·rfl
theorem Aj {n j:Nat}:(Ba n []).getD j .junk=.junk:=by
 simp only [Ba,List.getD_eq_getElem?_getD,List.getElem?_replicate];split <;> rfl
def mapW (f:L→L):List (Nat×L)→List (Nat×L)
 | []=>[]
 | (i,l) :: ws=>(i,f l) :: mapW f ws
theorem Kw {f:L→L} (h:f .junk=.junk) {n:Nat}:∀ {ws:List (Nat×L)},(Ba n ws).map f=Ba n (mapW f ws)
 | []=>by simp [Ba,mapW,h]
 | (i,l) :: ws=>by simp only [Ba,mapW,List.map_set,Kw h]
theorem U7 {d n:Nat} {ws:List (Nat×L)}:(Ba n ws).map (L.forget d)=Ba n (mapW (L.forget d) ws):=Kw rfl
theorem Wd {d n:Nat} {es:Fz} {ws:List (Nat×L)}:(Ba n ws).map (L.freeze d es)=Ba n (mapW (L.freeze d es) ws):=Kw rfl
theorem Jac {f:Nat→Option Nat} {n:Nat} {ws:List (Nat×L)}:(Ba n ws).map (L.map f)=Ba n (mapW (L.map f) ws):=Kw rfl
theorem Jlb {f:L→L}:mapW f []=[]:=(rfl)
theorem Jg1 {f:L→L} {i:Nat} {l:L} {ws:List (Nat×L)}:mapW f ((i,l) :: ws)=(i,f l) :: mapW f ws:=(rfl)
def argW:Nat→List L→List (Nat×L)
 | _,[]=>[]
 | k,l :: ls=>(k,l) :: argW (k+1) ls
theorem Tq {n:Nat}:∀ (k:Nat) (ls:List L) (i:Nat),k+ls.length≤n→(Ba n (argW k ls))[i]? = if i<n then (if k≤i then (ls[i - k]?).orElse fun _=>some .junk else some .junk) else none
 | k,[],i,h=>by
  simp only [argW,Ba,List.getElem?_replicate];split
  ·split <;> simp
  ·rfl
 | k,l :: ls,i,h=>by
  simp only [List.length_cons] at h;have ih:=Tq (n:=n) (k+1) ls i omg;simp only [argW,Ba,List.getElem?_set,Cg,ih];by_cases h1:k=i
  ·subst h1;simp
  ·simp only [if_neg h1];by_cases h2:i<n
   ·simp only [if_pos h2];by_cases h3:k+1≤i
    ·simp only [if_pos h3,if_pos (show k≤i by omega)];have:i - k=(i - (k+1))+1:=by omega
     rw [this,List.getElem?_cons_succ]
    ·simp only [if_neg h3,if_neg (show ¬ k≤i by omega)]
   ·simp only [if_neg h2]
theorem Rx {n:Nat} {ls:List L} (h:ls.length≤n):ls ++ List.replicate (n - ls.length) .junk=Ba n (argW 0 ls):=by
 apply List.ext_getElem?;intro i;rw [Tq 0 ls i omg];by_cases h1:i<ls.length
 ·rw [List.getElem?_append_left h1,if_pos omg,if_pos (Nat.zero_le _)];simp [h1]
 ·rw [List.getElem?_append_right omg,List.getElem?_replicate];by_cases h2:i<n
  ·rw [if_pos omg,if_pos h2,if_pos (Nat.zero_le _)];simp [h1]
  ·rw [if_neg omg,if_neg h2]
def wsLe (n:Nat) (ws:List (Nat×L)):List (Nat×L)→Prop
 | []=>True
 | (i,l) :: rest=>LLe ((Ba n ws).getD i .junk) l∧wsLe n ws rest
theorem Ar {n:Nat} {ws:List (Nat×L)}:wsLe n ws []=True:=(rfl)
theorem Ap {n i:Nat} {l:L} {ws rest:List (Nat×L)}:wsLe n ws ((i,l) :: rest)=(LLe ((Ba n ws).getD i .junk) l∧wsLe n ws rest):=(rfl)
theorem R2:∀ {a b:List L},a.length=b.length→(∀ i,LLe (a.getD i .junk) (b.getD i .junk))→Aw a b
 | [],[],_,_=>trivial
 | x :: a,y :: b,h,hi=>⟨by simpa using hi 0,R2 (by simpa using h) fun i=>by simpa using hi (i+1)⟩
 | [],_ :: _,h,_=>by simp at h
 | _ :: _,[],h,_=>by simp at h
theorem Z1 {n:Nat} {ws:List (Nat×L)}:∀ {rest:List (Nat×L)},wsLe n ws rest→∀ i,LLe ((Ba n ws).getD i .junk) ((Ba n rest).getD i .junk)
 | [],_,i=>by rw [Aj];exact .inl rfl
 | (j,l) :: rest,h,i=>by
  rw [Ao];split
  ·rename_i hj;subst hj;split
   ·exact h.1
   ·exact .inl rfl
  ·exact Z1 h.2 i
theorem Jqp {n:Nat} {ws ws':List (Nat×L)} {r r':Regs} (ht:wsLe n ws ws') (hr:Az r r') (hk:Ay r'):St.Le ⟨Ba n ws,r⟩ ⟨Ba n ws',r'⟩ :=
 J6v (R2 (by simp [Cg]) (Z1 ht)) hr hk
theorem Jxq {X:Cx} {f:FuncId} {fn:Func} {c:Code} {args:List L} {rs:Regs} {Post:L→Regs→Prop} (own:Bool) (rn:List (Nat×Nat)) (hrn:∀ x∈rn,x.2<1000∨500000≤x.2) (hf:X.P.funcs[f]? = some fn) (hname:(fn.name == "runtime.NumGoroutine")=false) (hb:fn.body=some c) (hn:args.length≤fn.ntmps)
  (h900:900 ∉ rs.map (·.1)) (h:SWP X none c (Jed X.P own rn fn.results.toList (rs.map (·.1)) Post) ⟨Ba fn.ntmps (argW 0 args),rs⟩):Al X f args rs Post :=
 Jwo own rn hrn hf hname hb h900 (by rw [Rx hn];exact h)
end Go.LX
