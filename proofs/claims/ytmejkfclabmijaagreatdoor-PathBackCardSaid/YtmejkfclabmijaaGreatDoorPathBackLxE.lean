/- The operations on values that are written out: each by lemmas of its own; what comes behind is named, never a lambda. -/
import Derived.Test.YtmejkfclabmijaaGreatDoorPathBackLxD
import Derived.Below
import Derived.Lib.LaidTab
set_option linter.unusedSimpArgs false
set_option linter.unusedVariables false
set_option linter.unusedSectionVars false
set_option linter.unnecessarySimpa false
namespace Go.LX
open Go Go.RowKit Go.Proofs
theorem pe {A B:Prop} (h:A ↔ B):A=B:=propext h
def Ht {α:Type} (o:Option α) (C:α→Prop):Prop:=∃ a,o=some a∧C a
theorem Bp {α:Type} {a:α} {C:α→Prop}:Ht (some a) C=C a:=pe ⟨fun ⟨_,h,hc⟩=>by cases h;exact hc,fun h=>⟨a,rfl,h⟩⟩
def getE {α:Type} (o:Option α) (C:α→Prop):Prop:=∃ a,o=some a∧C a
theorem Bg {α:Type} {a:α} {C:α→Prop}:getE (some a) C=C a:=pe ⟨fun ⟨_,h,hc⟩=>by cases h;exact hc,fun h=>⟨a,rfl,h⟩⟩
theorem Jjm {α:Type} [Inhabited α] {l:List α} {i:Nat} {C:α→Prop}:getE (l[i]?) C=(i<l.length∧C (l.getD i default)):=by
 apply pe
 constructor
 ·rintro ⟨a,h,hc⟩
  obtain ⟨h1,rfl⟩:=List.getElem?_eq_some_iff.1 h
  exact ⟨h1,by simpa [List.getD_eq_getElem?_getD,h1] using hc⟩
 ·rintro ⟨h1,hc⟩
  exact ⟨l[i],List.getElem?_eq_getElem h1,by simpa [List.getD_eq_getElem?_getD,h1] using hc⟩
theorem Jkp {α γ:Type} [Inhabited α] {l:List α} {f:α→γ} {i:Nat} {C:γ→Prop}:getE ((l.map f)[i]?) C=(i<l.length∧C (f (l.getD i default))):=by
 apply pe
 rw [show getE ((l.map f)[i]?) C ↔ getE (l[i]?) (fun a=>C (f a)) from Iff.of_eq ex_map,Jjm]
def at_ (s:List UInt8) (i:Nat):Nat:=(s.getD i 0).toNat
theorem Pw (s:List UInt8) (i:Nat):at_ s i≤255:=by
 have:=(s.getD i 0).toNat_lt
 simp only [at_];omega
theorem at_of {s:List UInt8} {i:Nat} {b:UInt8} (h:s[i]? = some b):at_ s i=b.toNat:=by simp [at_,List.getD_eq_getElem?_getD,h]
theorem Jh1 {s:List UInt8} {i:Nat} (h:i<s.length):at_ s i=s[i].toNat:=by simp [at_,List.getD_eq_getElem?_getD,h]
section
variable {X:Cx} {P:Program} {ro:Option Nat} {K:L→Prop} {J:St→Prop} {t:List L} {r:Regs} {ds:List (Option Tmp)}
theorem Iv {id:Nat} {ops:Array Oper} {Q:Ex→St→Prop}:lwp X ro (.region id ops true) Q ⟨t,r⟩=SWP X ro (.region id ops true) Q ⟨t,r⟩:=(rfl)
theorem w_leaf {ops:List Oper} {C:St→Prop}:lOrd X ds ops C .leaf ⟨t,r⟩=C ⟨t,r⟩:=(rfl)
theorem w_nil {ops:List Oper} {C:St→Prop}:lOrd X ds ops C .nil ⟨t,r⟩=True:=(rfl)
theorem w_node {ops:List Oper} {C:St→Prop} {i:Nat} {sub next:Ord}:lOrd X ds ops C (.node i sub next) ⟨t,r⟩=(lAt X ds ops i (lOrd X ds ops C sub) ⟨t,r⟩∧lOrd X ds ops C next ⟨t,r⟩):=(rfl)
theorem Jci {o:Oper} {ops:List Oper} {C:St→Prop}:lAt X ds (o :: ops) 0 C ⟨t,r⟩=P5 ds o.guard (lop X o C) (P8 o.dst C) ⟨t,r⟩:=(rfl)
theorem Jeg {o:Oper} {ops:List Oper} {C:St→Prop} {i:Nat}:lAt X ds (o :: ops) (i+1) C ⟨t,r⟩=lAt X ds ops i C ⟨t,r⟩:=(rfl)
theorem Q4 {A B:St→Prop}:P5 ds none A B ⟨t,r⟩=A ⟨t,r⟩:=(rfl)
theorem Br {b:Bool} {A B:St→Prop}:Jan (.p (.bool b)) A B ⟨t,r⟩=if b=true then A ⟨t,r⟩ else B ⟨t,r⟩:=by
 cases b <;> simp [Jan]
def gsel (o:Option Tmp) (want:Bool) (A B:St→Prop) (s:St):Prop :=
 match o with
 | some dj=>match s.tmps.getD dj .junk with
  | .p (.bool c)=>(c=want→A (s.put (some dj) (.p (.bool want))))∧(c=(!want)→B (s.put (some dj) (.p (.bool (!want)))))
  | .tup []=>B s
  | _=>False
 | none=>False
def gval (l:L) (dj:Tmp) (want:Bool) (A B:St→Prop) (s:St):Prop :=
 match l with
 | .p (.bool c)=>(c=want→A (s.put (some dj) (.p (.bool want))))∧(c=(!want)→B (s.put (some dj) (.p (.bool (!want)))))
 | .tup []=>B s
 | _=>False
theorem C6 {j:Nat} {want:Bool} {A B:St→Prop}:P5 ds (some (j,want)) A B ⟨t,r⟩=gsel (ds.getD j none) want A B ⟨t,r⟩:=(rfl)
theorem D6 {dj:Tmp} {want:Bool} {A B:St→Prop}:gsel (some dj) want A B ⟨t,r⟩=gval (t.getD dj .junk) dj want A B ⟨t,r⟩:=(rfl)
theorem Du {dj:Tmp} {c:Bool} {A B:St→Prop}:gval (.p (.bool c)) dj true A B ⟨t,r⟩=if c=true then A ⟨t.set dj (.p (.bool true)),r⟩ else B ⟨t.set dj (.p (.bool false)),r⟩:=by
 cases c <;> simp [gval,St.put]
theorem D3 {dj:Tmp} {c:Bool} {A B:St→Prop}:gval (.p (.bool c)) dj false A B ⟨t,r⟩=if c=true then B ⟨t.set dj (.p (.bool true)),r⟩ else A ⟨t.set dj (.p (.bool false)),r⟩:=by
 cases c <;> simp [gval,St.put]
theorem Kg {dj:Tmp} {want:Bool} {A B:St→Prop}:gval (.tup []) dj want A B ⟨t,r⟩=B ⟨t,r⟩:=(rfl)
theorem D4 {c:Bool} {a b:L}:Joj (.p (.bool c)) a b K=if c=true then K a else K b:=by cases c <;> simp [Joj]
variable {cst:Bool}
theorem Av {op:BinOp} {ty:TypeId} {k k':IntKind} {a b:Int}:lbin P op ty cst (.p (.int k a)) (.p (.int k' b)) K=lint op k a k' b K:=(rfl)
theorem F4 {op:BinOp} {ty:TypeId} {a b:List UInt8}:lbin P op ty cst (.p (.str a)) (.p (.str b)) K=lstr op a b K:=(rfl)
def knb (K:L→Prop) (b:Bool):Prop:=K (.p (.bool (!b)))
def aggEq (o:Option (List Tag)) (a b:List PV) (C:Bool→Prop):Prop:=∃ ts,o=some ts∧Ht (H8 ts a b) C
theorem Ja7 {ts:List Tag} {a b:List PV} {C:Bool→Prop}:aggEq (some ts) a b C=Ht (H8 ts a b) C:=pe ⟨fun ⟨_,h,hc⟩=>by cases h;exact hc,fun h=>⟨ts,rfl,h⟩⟩
theorem V1 {ty:TypeId} {a b:List PV}:lbin P .neq ty cst (.p (.agg a)) (.p (.agg b)) K=aggEq (Jdr P ty) a b (knb K):=(rfl)
def ptrC (o:Option TypeDesc) (b:Bool):Option Bool:=match o with | some (.pointer _)=>some b | _=>none
def ifcC (o:Option TypeDesc) (b:Bool):Option Bool:=match o with | some (.interface _)=>some b | _=>none
def slcC (o:Option TypeDesc) (b:Bool):Option Bool:=match o with | some (.slice _)=>some b | _=>none
def ptrS (P:Program) (o:Option TypeDesc) (c:Bool):Option Bool:=match o with | some (.pointer e)=>if c=true∧P.cellsOf e≠0 then some true else none | _=>none
theorem Jmj {e:TypeId} {b:Bool}:ptrC (some (.pointer e)) b=some b:=(rfl)
theorem Wt {ms:Array (String×TypeId)} {b:Bool}:ifcC (some (.interface ms)) b=some b:=(rfl)
theorem c_slcC {e:TypeId} {b:Bool}:slcC (some (.slice e)) b=some b:=(rfl)
theorem Jrb {e:TypeId} {c:Bool}:ptrS P (some (.pointer e)) c=if c=true∧P.cellsOf e≠0 then some true else none:=(rfl)
section
variable {op:BinOp} {ty:TypeId} {d i j d' i' j':Nat}
theorem u_n_pp:lbin P op ty cst (.p .nptr) (.p .nptr) K=Lo (ptrC (P.underlying ty) true) op K:=by
 show Lo (Pn P ty cst (.p .nptr) (.p .nptr)) op K=_
 unfold Pn ptrC;generalize P.underlying ty=o;cases o with
 | none=>rfl
 | some o=>cases o <;> rfl
theorem Jok:lbin P op ty cst (.ptr d i j) (.p .nptr) K=Lo (ptrC (P.underlying ty) false) op K:=by
 show Lo (Pn P ty cst (.ptr d i j) (.p .nptr)) op K=_
 unfold Pn ptrC;generalize P.underlying ty=o;cases o with
 | none=>rfl
 | some o=>cases o <;> rfl
theorem Jk6:lbin P op ty cst (.ptr d i j) (.ptr d' i' j') K=Lo (ptrS P (P.underlying ty) (d == d' && (i == i' && j == j'))) op K:=by
 show Lo (Pn P ty cst (.ptr d i j) (.ptr d' i' j')) op K=_
 unfold Pn ptrS;generalize P.underlying ty=o;cases o with
 | none=>rfl
 | some o =>
  cases o <;> first | rfl | (simp only [Bool.and_eq_true,beq_iff_eq,and_assoc])
theorem Jha:lbin P op ty true (.p .nifc) (.p .nifc) K=Lo (ifcC (P.underlying ty) true) op K:=by
 show Lo (Pn P ty true (.p .nifc) (.p .nifc)) op K=_
 unfold Pn ifcC;generalize P.underlying ty=o;cases o with
 | none=>rfl
 | some o=>cases o <;> rfl
theorem Jlh:lbin P op ty cst (.p .ifc) (.p .nifc) K=Lo (ifcC (P.underlying ty) false) op K:=by
 show Lo (Pn P ty cst (.p .ifc) (.p .nifc)) op K=_
 unfold Pn ifcC;generalize P.underlying ty=o;cases o with
 | none=>rfl
 | some o=>cases o <;> rfl
theorem Jm7 {T:TypeId} {q:IntKind} {n:Int}:lbin P op ty cst (.p (.ifi T q n)) (.p .nifc) K=Lo (ifcC (P.underlying ty) false) op K:=by
 show Lo (Pn P ty cst (.p (.ifi T q n)) (.p .nifc)) op K=_
 unfold Pn ifcC;generalize P.underlying ty=o;cases o with
 | none=>rfl
 | some o=>cases o <;> rfl
theorem u_n_sl {c:List PV} {cs:List (List PV)}:lbin P op ty cst (.p (.sl (c :: cs))) (.p .snil) K=Lo (slcC (P.underlying ty) false) op K:=by
 show Lo (Pn P ty cst (.p (.sl (c :: cs))) (.p .snil)) op K=_
 unfold Pn slcC;generalize P.underlying ty=o;cases o with
 | none=>rfl
 | some o=>cases o <;> rfl
end
theorem Rl {b:Bool}:Lo (some b) .eql K=K (.p (.bool b)):=(rfl)
theorem Ls {b:Bool}:Lo (some b) .neq K=K (.p (.bool (!b))):=(rfl)
theorem B0 {v:Value}:M5 (.const v)=true:=(rfl)
theorem Aq {i:Tmp}:M5 (.tmp i)=false:=(rfl)
theorem Jng {b:Bool}:knb K b=K (.p (.bool (!b))):=(rfl)
def bopt (b:Bool):Option Bool→Option Bool
 | some x=>some (b && x)
 | none=>none
theorem Vl {a b:Bool}:bopt a (some b)=some (a && b):=(rfl)
theorem Qg:H8 [] [] []=some true:=(rfl)
theorem Pe {ts:List Tag} {a b:Bool} {x y:List PV}:H8 (.bool :: ts) (.bool a :: x) (.bool b :: y)=bopt (a == b) (H8 ts x y):=by
 simp only [H8,bopt]
 cases H8 ts x y <;> rfl
theorem Qi {ts:List Tag} {k:IntKind} {a b:Int} {x y:List PV}:H8 (.int :: ts) (.int k a :: x) (.int k b :: y)=bopt (a == b) (H8 ts x y):=by
 simp only [H8,bopt,if_true]
 cases H8 ts x y <;> rfl
theorem Qm {ts:List Tag} {a b:List UInt8} {x y:List PV}:H8 (.str :: ts) (.str a :: x) (.str b :: y)=bopt (a == b) (H8 ts x y):=by
 simp only [H8,bopt]
 cases H8 ts x y <;> rfl
variable {k k':IntKind} {a b:Int}
theorem Jqm:lint .shl k a k' b K=(0≤b∧K (.p (.int k (k.wrap (a * 2 ^ min b.toNat k.bits))))):=(rfl)
theorem Jfh:lint .shr k a k' b K=(0≤b∧K (.p (.int k (a.fdiv (2 ^ min b.toNat k.bits))))):=(rfl)
theorem Hb:lint .add k a k b K=K (.p (.int k (k.wrap (a+b)))):=by simp [lint]
theorem Nn:lint .sub k a k b K=K (.p (.int k (k.wrap (a - b)))):=by simp [lint]
theorem u_mul:lint .mul k a k b K=K (.p (.int k (k.wrap (a * b)))):=by simp [lint]
theorem Jf5:lint .and k a k b K=K (.p (.int k (k.wrap (BitVec.ofInt k.bits a &&& BitVec.ofInt k.bits b).toNat))):=by simp [lint]
theorem u_or:lint .or k a k b K=K (.p (.int k (k.wrap (BitVec.ofInt k.bits a ||| BitVec.ofInt k.bits b).toNat))):=by simp [lint]
theorem H0:lint .eql k a k b K=K (.p (.bool (a == b))):=by simp [lint]
theorem Ll:lint .neq k a k b K=K (.p (.bool (a != b))):=by simp [lint]
theorem D1:lint .lss k a k b K=K (.p (.bool (decide (a<b)))):=by simp [lint]
theorem Pi:lint .leq k a k b K=K (.p (.bool (decide (a≤b)))):=by simp [lint]
theorem Js:lint .gtr k a k b K=K (.p (.bool (decide (b<a)))):=by simp [lint]
theorem M2:lint .geq k a k b K=K (.p (.bool (decide (b≤a)))):=by simp [lint]
variable {x y:List UInt8}
theorem R8:lstr .add x y K=(x.length+y.length≤9223372036854775807∧K (.p (.str (x ++ y)))):=(rfl)
theorem Pz:lstr .eql x y K=K (.p (.bool (x == y))):=(rfl)
theorem Qz:lstr .neq x y K=K (.p (.bool (!(x == y)))):=(rfl)
theorem Jhz:lstr .lss x y K=K (.p (.bool (Op.bytesLess x y))):=(rfl)
theorem Jp {c:Bool}:lun .not (.p (.bool c)) K=K (.p (.bool (!c))):=(rfl)
theorem u_min:Pd false [.p (.int k a),.p (.int k' b)] K=K (.p (.int k (min a b))):=(rfl)
def kstr (K:L→Prop) (bs:List UInt8):Prop:=K (.p (.str bs))
theorem Jma {bs:List UInt8}:kstr K bs=K (.p (.str bs)):=(rfl)
theorem Nv {sa sb:TypeId} {o:Operand} {dst:Option Tmp}:cvF P sa sb o dst J ⟨t,r⟩=Ui P sa sb ((St.mk t r).get o) (kput dst J ⟨t,r⟩):=(rfl)
def Jml (P:Program) (o q:Option TypeDesc) (d j:Nat) (r:Option Reg) (K:L→Prop):Prop :=
 match r,o,q with
 | some (.var _ cs),some (.pointer t),some .unsafePointer=>P.cellsOf t≠0∧j<cs.length∧K (.ptr d 0 j)
 | some (.var T cs),some .unsafePointer,some (.pointer u)=>liesAt P P.depth T (cs.length / P.cellsOf T) j u 1=true∧(P.info? u).isSome=true∧K (.ptr d 0 j)
 | _,_,_=>False
theorem Yk {sa sb:TypeId} {o:Operand} {dst:Option Tmp} {d j:Nat}:cvG P sa sb ⟨t,r⟩ o dst J (.ptr d 0 j)=Jml P (P.underlying sa) (P.underlying sb) d j (Bh d r) (kput dst J ⟨t,r⟩):=(rfl)
theorem Iy {sa sb:TypeId} {o:Operand} {dst:Option Tmp} {k:IntKind} {n:Int}:cvG P sa sb ⟨t,r⟩ o dst J (.p (.int k n))=cvF P sa sb o dst J (St.freezeOps ⟨t,r⟩ [o]):=(rfl)
theorem Jcn {sa sb:TypeId} {o:Operand} {dst:Option Tmp} {es:List (List PV)}:cvG P sa sb ⟨t,r⟩ o dst J (.p (.sl es))=cvF P sa sb o dst J (St.freezeOps ⟨t,r⟩ [o]):=(rfl)
def cvS (P:Program) (sa sb:TypeId) (oa ob:Option TypeDesc) (x:List UInt8) (s:St) (dst:Option Tmp) (J:St→Prop):Prop :=
 match ob with
 | some (.slice e)=>oa.isSome=true∧P.underlying e=some (.int .u8)∧kput dst J s (.p (.sl (x.map fun c=>[.int .u8 c.toNat])))
 | _=>Ui P sa sb (.p (.str x)) (kput dst J s)
theorem Jgi {sa sb:TypeId} {o:Operand} {dst:Option Tmp} {x:List UInt8}:cvG P sa sb ⟨t,r⟩ o dst J (.p (.str x))=cvS P sa sb (P.underlying sa) (P.underlying sb) x ⟨t,r⟩ dst J:=by
 show Y3 P sa sb x ⟨t,r⟩ dst J=_
 unfold Y3 cvS
 cases P.underlying sb with
 | none=>rfl
 | some q=>cases q <;> rfl
theorem Jj4 {sa sb:TypeId} {oa:TypeDesc} {dst:Option Tmp} {x:List UInt8} {e:TypeId}:cvS P sa sb (some oa) (some (.slice e)) x ⟨t,r⟩ dst J=(P.underlying e=some (.int .u8)∧kput dst J ⟨t,r⟩ (.p (.sl (x.map fun c=>[.int .u8 c.toNat])))):=by simp [cvS]
theorem Jbq {d j:Nat} {ty:TypeId} {T:TypeId} {cs:List L}:Jml P (some (.pointer ty)) (some .unsafePointer) d j (some (.var T cs)) K=(P.cellsOf ty≠0∧j<cs.length∧K (.ptr d 0 j)):=(rfl)
theorem X0 {d j:Nat} {ty:TypeId} {T:TypeId} {cs:List L}:Jml P (some .unsafePointer) (some (.pointer ty)) d j (some (.var T cs)) K=(liesAt P P.depth T (cs.length / P.cellsOf T) j ty 1=true∧(P.info? ty).isSome=true∧K (.ptr d 0 j)):=(rfl)
def Jb6 (P:Program) (src dst:Option TypeDesc) (x:L) (K:L→Prop):Prop :=
 match dst,x with
 | some (.int k),.p (.int _ n)=>src.isSome=true∧K (.p (.int k (k.wrap n)))
 | some .string,.p (.str s)=>src.isSome=true∧(∀ e,src≠some (.slice e))∧K (.p (.str s))
 | some .string,.p (.int _ n)=>src.isSome=true∧(∀ e,src≠some (.slice e))∧K (.p (.str (Utf8.encode n).data.toList))
 | some .string,.p (.sl es)=>(∃ e,src=some (.slice e)∧P.underlying e=some (.int .u8))∧Ht (K0 es) (kstr K)
 | _,_=>False
theorem Li {s d:TypeId} {x:L}:Ui P s d x K=Jb6 P (P.underlying s) (P.underlying d) x K:=(rfl)
theorem Io {d:TypeDesc}:Jb6 P (some d) (some (.int k')) (.p (.int k a)) K=K (.p (.int k' (k'.wrap a))):=by simp [Jb6]
theorem Ub:Jb6 P (some (.int k')) (some .string) (.p (.int k a)) K=K (.p (.str (Utf8.encode a).data.toList)):=by simp [Jb6]
theorem Tt {e:TypeId} {es:List (List PV)}:Jb6 P (some (.slice e)) (some .string) (.p (.sl es)) K=(P.underlying e=some (.int .u8)∧Ht (K0 es) (kstr K)):=by
 simp [Jb6]
def Jjw (n:Int):Option (List UInt8)→Option (List UInt8)
 | some bs=>if 0≤n∧n<256 then some (UInt8.ofNat n.toNat :: bs) else none
 | none=>none
theorem Up:K0 []=some []:=(rfl)
theorem Qf {n:Int} {l:List (List PV)}:K0 ([.int .u8 n] :: l)=Jjw n (K0 l):=by
 simp only [K0,Jjw]
 cases K0 l <;> simp
def u8of (n:Int):UInt8:=UInt8.ofNat (n % 256).toNat
theorem Wu {s:List UInt8} {i:Nat} {bs:List UInt8}:Jjw (at_ s i) (some bs)=some (s.getD i 0 :: bs):=by
 simp only [Jjw]
 rw [if_pos ⟨by omega,by have:=Pw s i;omega⟩]
 simp [at_]
def lenT (d:Option TypeDesc) (x:L) (K:L→Prop):Prop :=
 match d,x with
 | some .string,.p (.str s)=>K (.p (.int .i64 s.length))
 | some (.slice _),.p (.sl es)=>K (.p (.int .i64 es.length))
 | some (.slice _),.p .snil=>K (.p (.int .i64 0))
 | some (.slice _),.own _ _ len=>K (.p (.int .i64 len))
 | some (.map _ _),.p .nmap=>K (.p (.int .i64 0))
 | some (.map _ _),.p (.mp es)=>K (.p (.int .i64 es.length))
 | _,_=>False
variable {es:List (List PV)} {e sz:Nat}
theorem D9 {ty:TypeId} {x:L}:llen P ty x K=lenT (P.underlying ty) x K:=(rfl)
theorem Fb:lenT (some .string) (.p (.str x)) K=K (.p (.int .i64 x.length)):=(rfl)
theorem D0:lenT (some (.slice e)) (.p (.sl es)) K=K (.p (.int .i64 es.length)):=(rfl)
theorem Sl:lenT (some (.slice e)) (.p .snil) K=K (.p (.int .i64 0)):=(rfl)
theorem Gg {d o n:Nat}:lenT (some (.slice e)) (.own d o n) K=K (.p (.int .i64 n)):=(rfl)
def Jod (sz:Nat) (K:L→Prop) (e:List PV):Prop:=e.length=sz∧K (.eptr e)
theorem Eh {c:List PV}:Jod sz K c=(c.length=sz∧K (.eptr c)):=(rfl)
def iaT (r:Regs) (o:Option (TypeId×Nat)) (q:Option (Nat×TypeId×Nat)) (x ix:L) (K:L→Prop):Prop :=
 match x,ix with
 | .p (.sl es),.p (.int _ i)=>match o with
  | some (_,sz)=>0≤i∧getE (es[i.toNat]?) (Jod sz K)
  | none=>False
 | .own d off len,.p (.int _ i)=>match Bh d r,o with
  | some (.row _ sz _),some (_,sz')=>sz=sz'∧0≤i∧i<len∧K (.ptr d (off+i.toNat) 0)
  | some (.lrow _ sz _ _),some (_,sz')=>sz=sz'∧0≤i∧i<len∧K (.ptr d (off+i.toNat) 0)
  | _,_=>False
 | .ptr d a b,.p (.int _ i)=>match q with
  | some (n,_,sz)=>0≤i∧i<n∧K (.ptr d a (b+i.toNat * sz))
  | none=>False
 | .eptr cs,.p (.int _ i)=>match q with
  | some (n,_,sz)=>0≤i∧i<n∧i.toNat * sz≤cs.length∧K (.eptr (cs.drop (i.toNat * sz)))
  | none=>False
 | _,_=>False
def iaR (q:Option Reg) (sz':Nat) (d off len:Nat) (i:Int) (K:L→Prop):Prop :=
 match q with
 | some (.row _ sz _)=>sz=sz'∧0≤i∧i<len∧K (.ptr d (off+i.toNat) 0)
 | some (.lrow _ sz _ _)=>sz=sz'∧0≤i∧i<len∧K (.ptr d (off+i.toNat) 0)
 | _=>False
theorem B7 {ty:TypeId} {x ix:L}:Lx P r ty x ix K=iaT r (slE P ty) (arE P ty) x ix K:=by
 unfold Lx iaT getE Jod
 rfl
theorem D7 {i:Int} {q:Option (Nat×TypeId×Nat)}:iaT r (some (e,sz)) q (.p (.sl es)) (.p (.int k i)) K=(0≤i∧getE (es[i.toNat]?) (Jod sz K)):=(rfl)
theorem Kr {i:Int} {d off len:Nat} {q:Option (Nat×TypeId×Nat)}:iaT r (some (e,sz)) q (.own d off len) (.p (.int k i)) K=iaR (Bh d r) sz d off len i K:=by
 simp only [iaT,iaR]
 generalize Bh d r=q
 cases q with
 | none=>rfl
 | some q=>cases q <;> rfl
theorem Jda {i:Int} {d a b n:Nat} {o:Option (TypeId×Nat)}:iaT r o (some (n,e,sz)) (.ptr d a b) (.p (.int k i)) K=(0≤i∧i<n∧K (.ptr d a (b+i.toNat * sz))):=(rfl)
theorem Ku {i:Int} {d off len sz':Nat} {T:TypeId}:iaR (some (.row T sz es)) sz' d off len i K=(sz=sz'∧0≤i∧i<len∧K (.ptr d (off+i.toNat) 0)):=(rfl)
def Jra (K:L→Prop) (b:UInt8):Prop:=K (.p (.int .u8 b.toNat))
def kp (K:L→Prop) (c:PV):Prop:=K (.p c)
theorem He {c:PV}:kp K c=K (.p c):=(rfl)
def ixT (P:Program) (d:Option TypeDesc) (x ix:L) (K:L→Prop):Prop :=
 match d,x,ix with
 | some .string,.p (.str s),.p (.int _ i)=>0≤i∧getE (s[i.toNat]?) (Jra K)
 | some (.array n e),.p (.agg cs),.p (.int _ i)=>I6 P e=some false∧P.cellsOf e=1∧0≤i∧i<n∧getE (cs[i.toNat]?) (kp K)
 | _,_,_=>False
theorem Nz {ty:TypeId} {x ix:L}:Tu P ty x ix K=ixT P (P.underlying ty) x ix K:=by
 unfold Tu ixT getE Jra kp;rfl
theorem L8 {i:Int}:ixT P (some .string) (.p (.str x)) (.p (.int k i)) K=(0≤i∧i.toNat<x.length∧K (.p (.int .u8 (at_ x i.toNat)))):=by
 show (0≤i∧getE (x[i.toNat]?) (Jra K))=_
 rw [Jjm];rfl
def faT (o:Option (Nat×TypeId)) (x:L) (K:L→Prop):Prop :=
 match o,x with
 | some (off,_),.eptr cs=>off≤cs.length∧K (.eptr (cs.drop off))
 | some (off,_),.ptr d i j=>K (.ptr d i (j+off))
 | _,_=>False
variable {off n f:Nat} {ft ty T:TypeId} {cs:List PV} {d i j:Nat} {ls:List L}
theorem Cv {x:L}:Mv P ty x f K=faT (fld P ty f) x K:=(rfl)
theorem Gi:faT (some (off,ft)) (.eptr cs) K=(off≤cs.length∧K (.eptr (cs.drop off))):=(rfl)
theorem Gd:faT (some (off,ft)) (.ptr d i j) K=K (.ptr d i (j+off)):=(rfl)
def kagg (K:L→Prop) (ps:List PV):Prop:=K (.p (.agg ps))
theorem K7 {ps:List PV}:kagg K ps=K (.p (.agg ps)):=(rfl)
def Jkn (j:Nat) (K:L→Prop) (e:List PV):Prop:=getE (e[j]?) (kp K)
theorem Qn {c:List PV}:Jkn j K c=getE (c[j]?) (kp K):=(rfl)
def krow (n j:Nat) (K:L→Prop) (e:List PV):Prop:=0<n∧j+n≤e.length∧K (.p (.agg ((e.drop j).take n)))
theorem Jlm {c:List PV}:krow n j K c=(0<n∧j+n≤c.length∧K (.p (.agg ((c.drop j).take n)))):=(rfl)
def Jli (j:Nat) (K:L→Prop) (e:List L):Prop:=getE (e[j]?) K
def Jrf (n j:Nat) (K:L→Prop) (e:List L):Prop:=0<n∧j+n≤e.length∧Ht (F7 L.pure? ((e.drop j).take n)) (kagg K)
def ldT (n:Nat) (r:Regs) (o:Option Bool) (x:L) (K:L→Prop):Prop :=
 match o,x with
 | some false,.eptr cs=>getE (cs[0]?) (kp K)
 | some true,.eptr cs=>0<n∧n≤cs.length∧K (.p (.agg (cs.take n)))
 | some false,.ptr d i j=>match Bh d r with
  | some (.var _ cs)=>i=0∧getE (cs[j]?) K
  | some (.row _ _ es)=>getE (es[i]?) (Jkn j K)
  | some (.lrow _ _ _ es)=>getE (es[i]?) (Jli j K)
  | some (.obj _)=>False
  | none=>False
 | some true,.ptr d i j=>match Bh d r with
  | some (.var _ cs)=>i=0∧0<n∧j+n≤cs.length∧Ht (F7 L.pure? ((cs.drop j).take n)) (kagg K)
  | some (.row _ _ es)=>getE (es[i]?) (krow n j K)
  | some (.lrow _ _ _ es)=>getE (es[i]?) (Jrf n j K)
  | some (.obj _)=>False
  | none=>False
 | _,_=>False
def ldF (q:Option Reg) (i j:Nat) (K:L→Prop):Prop :=
 match q with
 | some (.var _ cs)=>i=0∧getE (cs[j]?) K
 | some (.row _ _ es)=>getE (es[i]?) (Jkn j K)
 | some (.lrow _ _ _ es)=>getE (es[i]?) (Jli j K)
 | some (.obj _)=>False
 | none=>False
def ldA (q:Option Reg) (n i j:Nat) (K:L→Prop):Prop :=
 match q with
 | some (.var _ cs)=>i=0∧0<n∧j+n≤cs.length∧Ht (F7 L.pure? ((cs.drop j).take n)) (kagg K)
 | some (.row _ _ es)=>getE (es[i]?) (krow n j K)
 | some (.lrow _ _ _ es)=>getE (es[i]?) (Jrf n j K)
 | some (.obj _)=>False
 | none=>False
theorem C5 {x:L}:T5 P r ty x K=ldT (P.cellsOf ty) r (I6 P ty) x K:=by unfold T5 ldT getE kp Ht kagg Jkn krow Jli Jrf getE Ht kagg;rfl
theorem C4:ldT n r (some false) (.eptr cs) K=getE (cs[0]?) (kp K):=(rfl)
theorem Ic:ldT n r (some true) (.eptr cs) K=(0<n∧n≤cs.length∧K (.p (.agg (cs.take n)))):=(rfl)
theorem Da:ldT n r (some false) (.ptr d i j) K=ldF (Bh d r) i j K:=(rfl)
theorem Iq:ldT n r (some true) (.ptr d i j) K=ldA (Bh d r) n i j K:=(rfl)
theorem Ej:ldF (some (.var T ls)) i j K=(i=0∧getE (ls[j]?) K):=(rfl)
theorem Nb:ldF (some (.row T sz es)) i j K=getE (es[i]?) (Jkn j K):=(rfl)
theorem Jj:ldA (some (.var T ls)) n i j K=(i=0∧0<n∧j+n≤ls.length∧Ht (F7 L.pure? ((ls.drop j).take n)) (kagg K)):=(rfl)
theorem Zp:ldA (some (.row T sz es)) n i j K=getE (es[i]?) (krow n j K):=(rfl)
def bnd (s:St):Option Operand→Option L
 | none=>none
 | some o=>some (s.get o)
theorem E9 {s:St}:bnd s none=none:=(rfl)
theorem Ef {s:St} {o:Operand}:bnd s (some o)=some (s.get o):=(rfl)
def bndI (d:Int):Option L→Option Int
 | none=>some d
 | some (.p (.int _ n))=>some n
 | some _=>none
def slT (P:Program) (r:Regs) (o:Option TypeDesc) (x:L) (lo hi:Option L) (K:L→Prop):Prop :=
 match o,x with
 | some .string,.p (.str s)=>∃ l h,bndI 0 lo=some l∧bndI s.length hi=some h∧0≤l∧l≤h∧h≤s.length∧K (.p (.str ((s.drop l.toNat).take (h.toNat - l.toNat))))
 | some (.slice e),.p (.sl es)=>0<P.cellsOf e∧(∀ x∈es,x.length=P.cellsOf e)∧∃ l h,bndI 0 lo=some l∧bndI es.length hi=some h∧0≤l∧l≤h∧h≤es.length∧K (.p (.sl ((es.drop l.toNat).take (h.toNat - l.toNat))))
 | some (.slice e),.p .snil=>0<P.cellsOf e∧∃ l h,bndI 0 lo=some l∧bndI 0 hi=some h∧l=0∧h=0∧K (.p .snil)
 | some (.slice e),.own d off len=>0<P.cellsOf e∧Z8 r d=some (P.cellsOf e)∧∃ l h,bndI 0 lo=some l∧bndI len hi=some h∧0≤l∧l≤h∧h≤(max len (Qv r d - off):Nat)∧K (.own d (off+l.toNat) (h.toNat - l.toNat))
 | _,_=>False
theorem Fn {o:Operand} {lo hi:Option Operand}:Qy P r ty (St.mk t r).get o lo hi none K=slT P r (P.underlying ty) ((St.mk t r).get o) (bnd ⟨t,r⟩ lo) (bnd ⟨t,r⟩ hi) K:=by
 have h1:∀ (d:Int) (q:Option Operand),Mq (St.mk t r).get d q=bndI d (bnd ⟨t,r⟩ q):=by
  intro d q
  cases q with
  | none=>rfl
  | some q =>
   simp only [Mq,bnd]
   cases (St.mk t r).get q with
   | p v=>cases v <;> rfl
   | _=>rfl
 unfold Qy slT
 simp only [h1,true_and]
 generalize P.underlying ty=q
 generalize (St.mk t r).get o=l
 cases q with
 | none=>rfl
 | some q=>cases q <;> first | rfl | (cases l <;> first | rfl | (rename_i v;cases v <;> rfl))
theorem Ij {l:Int}:slT P r (some .string) (.p (.str x)) (some (.p (.int k l))) none K=(0≤l∧l≤x.length∧K (.p (.str (x.drop l.toNat)))):=by
 simp only [slT,bndI]
 apply pe
 constructor
 ·rintro ⟨l',h',g1,g2,h1,h2,_,h3⟩
  cases g1;cases g2
  refine ⟨h1,h2,?_⟩
  rwa [List.take_of_length_le (by simp)] at h3
 ·rintro ⟨h1,h2,h3⟩
  refine ⟨_,_,rfl,rfl,h1,h2,Int.le_refl _,?_⟩
  rwa [List.take_of_length_le (by simp)]
theorem Jns {h:Int}:slT P r (some .string) (.p (.str x)) none (some (.p (.int k h))) K=(0≤h∧h≤x.length∧K (.p (.str (x.take h.toNat)))):=by
 simp [slT,bndI]
theorem Rw {l h:Int}:slT P r (some .string) (.p (.str x)) (some (.p (.int k l))) (some (.p (.int k' h))) K=(0≤l∧l≤h∧h≤x.length∧K (.p (.str ((x.drop l.toNat).take (h.toNat - l.toNat))))):=by
 simp [slT,bndI]
theorem Jbd {l:Int}:slT P r (some (.slice e)) (.p (.sl es)) (some (.p (.int k l))) none K=(0<P.cellsOf e∧(∀ x∈es,x.length=P.cellsOf e)∧0≤l∧l≤es.length∧K (.p (.sl (es.drop l.toNat)))):=by
 simp only [slT,bndI]
 apply pe
 constructor
 ·rintro ⟨g1,g2,l',h',k1,k2,h1,h2,_,h3⟩
  cases k1;cases k2
  refine ⟨g1,g2,h1,h2,?_⟩
  rwa [List.take_of_length_le (by simp)] at h3
 ·rintro ⟨g1,g2,h1,h2,h3⟩
  refine ⟨g1,g2,_,_,rfl,rfl,h1,h2,Int.le_refl _,?_⟩
  rwa [List.take_of_length_le (by simp)]
theorem Jm9 {h:Int}:slT P r (some (.slice e)) (.p (.sl es)) none (some (.p (.int k h))) K=(0<P.cellsOf e∧(∀ x∈es,x.length=P.cellsOf e)∧0≤h∧h≤es.length∧K (.p (.sl (es.take h.toNat)))):=by
 simp [slT,bndI]
theorem Jgq {l h:Int}:slT P r (some (.slice e)) (.p (.sl es)) (some (.p (.int k l))) (some (.p (.int k' h))) K=(0<P.cellsOf e∧(∀ x∈es,x.length=P.cellsOf e)∧0≤l∧l≤h∧h≤es.length∧K (.p (.sl ((es.drop l.toNat).take (h.toNat - l.toNat))))):=by
 simp [slT,bndI]
theorem Jnr {h:Int}:slT P r (some (.slice e)) (.p .snil) none (some (.p (.int k h))) K=(0<P.cellsOf e∧h=0∧K (.p .snil)):=by
 simp [slT,bndI]
theorem Vn {h:Int} {o m:Nat}:slT P r (some (.slice e)) (.own d o m) none (some (.p (.int k h))) K=(0<P.cellsOf e∧Z8 r d=some (P.cellsOf e)∧0≤h∧h≤(max m (Qv r d - o):Nat)∧K (.own d o h.toNat)):=by
 simp [slT,bndI]
theorem Oz {l:Int} {o m:Nat}:slT P r (some (.slice e)) (.own d o m) (some (.p (.int k l))) none K=(0<P.cellsOf e∧Z8 r d=some (P.cellsOf e)∧0≤l∧l≤m∧K (.own d (o+l.toNat) (m - l.toNat))):=by
 simp only [slT,bndI]
 apply pe
 constructor
 ·rintro ⟨g1,g2,l',h',k1,k2,h1,h2,_,h3⟩
  cases k1;cases k2
  exact ⟨g1,g2,h1,h2,by simpa using h3⟩
 ·rintro ⟨g1,g2,h1,h2,h3⟩
  exact ⟨g1,g2,_,_,rfl,rfl,h1,h2,by omega,by simpa using h3⟩
theorem Yl {o:Oper} {x:Operand} {lo hi:Option Operand} {dst:Option Tmp} {d:Nat}:slG P o ty x lo hi dst J ⟨t,r⟩ (.ptr d 0 0)=larr P ty ⟨t,r⟩ d lo hi (kput dst J) (Bh d r):=(rfl)
theorem Gy {o:Oper} {x:Operand} {lo hi:Option Operand} {dst:Option Tmp} {v:PV}:slG P o ty x lo hi dst J ⟨t,r⟩ (.p v)=Qy P r ty (St.mk t r).get x lo hi none (kput dst J ⟨t,r⟩):=(rfl)
theorem Md {o:Oper} {x:Operand} {lo hi:Option Operand} {dst:Option Tmp} {d m n:Nat}:slG P o ty x lo hi dst J ⟨t,r⟩ (.own d m n)=Qy P r ty (St.mk t r).get x lo hi none (kput dst J ⟨t,r⟩):=(rfl)
def karr (cs:List L) (n:Nat) (lo hi:Option L) (N:St→L→Prop) (s:St) (ps:List PV):Prop :=
 ∃ l h,bndI 0 lo=some l∧bndI n hi=some h∧0≤l∧l≤h∧h≤n∧N s (.p (.sl (((ps.map fun p=>[p]).drop l.toNat).take (h.toNat - l.toNat))))
def laT (P:Program) (o:Option (Nat×TypeId×Nat)) (s:St) (d:Nat) (lo hi:Option L) (N:St→L→Prop) (q:Option Reg):Prop :=
 match q,o with
 | some (.var _ cs),some (n,_,sz)=>sz=1∧n=cs.length∧Ht (F7 L.pure? cs) (karr cs n lo hi N (Nu d (some .gone) s))
 | _,_=>False
theorem Jmk {lo hi:Option Operand} {N:St→L→Prop} {q:Option Reg} {d:Nat}:larr P ty ⟨t,r⟩ d lo hi N q=laT P (arE P ty) ⟨t,r⟩ d (bnd ⟨t,r⟩ lo) (bnd ⟨t,r⟩ hi) N q:=by
 have h1:∀ (d:Int) (q:Option Operand),Mq (St.mk t r).get d q=bndI d (bnd ⟨t,r⟩ q):=by
  intro d q
  cases q with
  | none=>rfl
  | some q =>
   simp only [Mq,bnd]
   cases (St.mk t r).get q with
   | p v=>cases v <;> rfl
   | _=>rfl
 unfold larr laT karr Ht
 simp only [h1]
 cases q with
 | none=>rfl
 | some q=>cases q <;> first | rfl | (cases arE P ty <;> rfl)
theorem u_laT {lo hi:Option L} {N:St→L→Prop} {d n sz:Nat} {e T:TypeId} {cs:List L}:laT P (some (n,e,sz)) ⟨t,r⟩ d lo hi N (some (.var T cs))=(sz=1∧n=cs.length∧Ht (F7 L.pure? cs) (karr cs n lo hi N (Nu d (some .gone) ⟨t,r⟩))):=(rfl)
theorem Jd7 {cs:List L} {n:Nat} {l:Int} {N:St→L→Prop} {ps:List PV}:karr cs n (some (.p (.int k l))) none N ⟨t,r⟩ ps=(0≤l∧l≤n∧N ⟨t,r⟩ (.p (.sl (((ps.map fun p=>[p]).drop l.toNat).take ((n:Int).toNat - l.toNat))))):=by
 apply pe
 constructor
 ·rintro ⟨l',h',g1,g2,h1,h2,h3,h4⟩
  cases g1;cases g2
  exact ⟨h1,h2,h4⟩
 ·rintro ⟨h1,h2,h3⟩
  exact ⟨_,_,rfl,rfl,h1,h2,by omega,h3⟩
def rsz:Option Reg→Option Nat
 | some (.row _ sz _)=>some sz
 | some (.lrow _ sz _ _)=>some sz
 | _=>none
def rln:Option Reg→Nat
 | some (.row _ _ es)=>es.length
 | some (.lrow _ _ _ es)=>es.length
 | _=>0
theorem N2:Z8 r d=rsz (Bh d r):=by
 unfold Z8 rsz;cases Bh d r with
 | none=>rfl
 | some g=>cases g <;> rfl
theorem So:Qv r d=rln (Bh d r):=by
 unfold Qv rln;cases Bh d r with
 | none=>rfl
 | some g=>cases g <;> rfl
theorem Oi:rsz (some (.row T sz es))=some sz:=(rfl)
theorem Ly {fu:Bool} {ll:List (List L)}:rsz (some (.lrow T sz fu ll))=some sz:=(rfl)
theorem Jez:rln (some (.row T sz es))=es.length:=(rfl)
theorem Q0 {fu:Bool} {ll:List (List L)}:rln (some (.lrow T sz fu ll))=ll.length:=(rfl)
theorem En {xs:List PV}:Jcx (.tup xs) i K=getE (xs[i]?) (kp K):=(rfl)
theorem K9:lnil (.ptr d i j) K=K (.ptr d i j):=(rfl)
def kfn (g:FuncId) (K:L→Prop) (ids:List Nat):Prop:=K (.fn g ids)
theorem u_kfn {g:FuncId} {ids:List Nat}:kfn g K ids=K (.fn g ids):=(rfl)
theorem Jq1 {g:FuncId}:Jqv g ls K=Ht (R3 ls) (kfn g K):=(rfl)
def capC (d:Nat):Option (List Nat)→Option (List Nat)
 | some l=>some (d :: l)
 | none=>none
theorem Je6 {l:List Nat}:capC d (some l)=some (d :: l):=(rfl)
theorem Jbo:R3 []=some []:=(rfl)
theorem Jax:R3 (.ptr d 0 0 :: ls)=capC d (R3 ls):=(rfl)
def kbuild (P:Program) (ty:TypeId) (parts:List (Nat×L)) (K:L→Prop) (z:List PV):Prop:=N9 P ty=true∧Ht (Nd P ty z parts) (kagg K)
theorem L6 {parts:List (Nat×L)} {z:List PV}:kbuild P ty parts K z=(N9 P ty=true∧Ht (Nd P ty z parts) (kagg K)):=(rfl)
theorem N1 {parts:List (Nat×L)}:Jhm P ty parts K=Ht (Ik P ty) (kbuild P ty parts K):=(rfl)
def Jj3 (P:Program) (ty:TypeId) (cs:List PV) (o:Option (Nat×TypeId)) (x:L) (rest:List (Nat×L)):Option (List PV) :=
 match o,x with
 | some (off,ft),.p (.agg xs)=>if xs.length=P.cellsOf ft∧off+xs.length≤cs.length then Nd P ty (cs.take off ++ xs ++ cs.drop (off+xs.length)) rest else none
 | some (off,ft),.p v=>if 1=P.cellsOf ft∧off+1≤cs.length then Nd P ty (cs.set off v) rest else none
 | _,_=>none
theorem Kd:Nd P ty cs []=some cs:=(rfl)
theorem Lh {rest:List (Nat×L)} {x:L}:Nd P ty cs ((i,x) :: rest)=Jj3 P ty cs (fld P ty i) x rest:=by
 simp only [Nd,Jj3];rfl
theorem Uh {rest:List (Nat×L)} {v:Bool}:Jj3 P ty cs (some (off,ft)) (.p (.bool v)) rest=if 1=P.cellsOf ft∧off+1≤cs.length then Nd P ty (cs.set off (.bool v)) rest else none:=(rfl)
theorem N7 {rest:List (Nat×L)}:Jj3 P ty cs (some (off,ft)) (.p (.int k a)) rest=if 1=P.cellsOf ft∧off+1≤cs.length then Nd P ty (cs.set off (.int k a)) rest else none:=(rfl)
theorem Tf {rest:List (Nat×L)}:Jj3 P ty cs (some (off,ft)) (.p (.str x)) rest=if 1=P.cellsOf ft∧off+1≤cs.length then Nd P ty (cs.set off (.str x)) rest else none:=(rfl)
def Jqn (d:Nat) (T:TypeId) (s:St) (J:St→Prop) (zs:List PV):Prop:=J ((s.newReg d (.var T (zs.map .p))).put (some d) (.ptr d 0 0))
theorem G7 {zs:List PV}:Jqn d T ⟨t,r⟩ J zs=J ((St.newReg d (.var T (zs.map .p)) ⟨t,r⟩).put (some d) (.ptr d 0 0)):=(rfl)
theorem H5:Jho P d T ⟨t,r⟩ J=(d<1000∧Ht (Ik P T) (Jqn d T ⟨t,r⟩ J)):=(rfl)
def kbox (d:Nat) (T:TypeId) (s:St) (J:St→Prop) (xs:List L):Prop:=J ((s.newReg d (.var T (xs.map (L.forget d)))).put (some d) (.ptr d 0 0))
theorem P3 {xs:List L}:kbox d T ⟨t,r⟩ J xs=J ((St.newReg d (.var T (xs.map (L.forget d))) ⟨t,r⟩).put (some d) (.ptr d 0 0)):=(rfl)
theorem T7 {o:Operand}:lbox d T ⟨t,r⟩ o J=(d<1000∧Ht (I7 ((St.mk t r).get o)) (kbox d T ⟨t,r⟩ J)):=(rfl)
theorem Cr {q:Reg}:St.newReg d q ⟨t,r⟩=⟨t.map (L.forget d),(d,q) :: Kz d r⟩:=(rfl)
theorem G1:St.forget d ⟨t,r⟩=⟨t.map (L.forget d),Kz d r⟩:=(rfl)
theorem Gj {ps:List PV}:I7 (.p (.agg ps))=some (ps.map .p):=(rfl)
theorem Sr {c:Bool}:I7 (.p (.bool c))=some [.p (.bool c)]:=(rfl)
theorem Oq:I7 (.p (.int k a))=some [.p (.int k a)]:=(rfl)
theorem Kx:I7 (.p (.str x))=some [.p (.str x)]:=(rfl)
theorem Lz:I7 (.p (.sl es))=some [.p (.sl es)]:=(rfl)
theorem Jfs:I7 (.p .snil)=some [.p .snil]:=(rfl)
theorem Mm {o m:Nat}:I7 (.own d o m)=some [.own d o m]:=(rfl)
theorem Jis:I7 (.ptr d i j)=some [.ptr d i j]:=(rfl)
def kst (P:Program) (ty:TypeId) (d i j:Nat) (T:TypeId) (cs:List L) (s:St) (J:St→Prop) (xs:List L):Prop :=
 i=0∧xs.length=P.cellsOf ty∧P.cellsOf ty≠0∧j+xs.length≤cs.length∧J { s with regs:=H6 d (.var T (cs.take j ++ xs ++ cs.drop (j+xs.length))) s.regs }
theorem Jw {xs:List L}:kst P ty d i j T ls ⟨t,r⟩ J xs=(i=0∧xs.length=P.cellsOf ty∧P.cellsOf ty≠0∧j+xs.length≤ls.length∧J ⟨t,H6 d (.var T (ls.take j ++ xs ++ ls.drop (j+xs.length))) r⟩):=(rfl)
def kst3 (P:Program) (ty:TypeId) (a:Operand) (d i j:Nat) (T:TypeId) (sz:Nat) (es:List (List PV)) (s:St) (J:St→Prop) (ps:List PV) (e:List PV):Prop :=
 ps.length=P.cellsOf ty∧P.cellsOf ty≠0∧j+ps.length≤e.length∧Bh d s.regs=some (.row T sz es)∧s.get a=.ptr d i j∧J { s with regs:=H6 d (.row T sz (es.set i (e.take j ++ ps ++ e.drop (j+ps.length)))) s.regs }
theorem Vb {o:Operand} {ps c:List PV}:kst3 P ty o d i j T sz es ⟨t,r⟩ J ps c=(ps.length=P.cellsOf ty∧P.cellsOf ty≠0∧j+ps.length≤c.length∧Bh d r=some (.row T sz es)∧(St.mk t r).get o=.ptr d i j∧J ⟨t,H6 d (.row T sz (es.set i (c.take j ++ ps ++ c.drop (j+ps.length)))) r⟩):=(rfl)
def kst2 (P:Program) (ty:TypeId) (a:Operand) (d i j:Nat) (T:TypeId) (sz:Nat) (es:List (List PV)) (s:St) (J:St→Prop) (ps:List PV):Prop:=getE (es[i]?) (kst3 P ty a d i j T sz es s J ps)
theorem T9 {o:Operand} {ps:List PV}:kst2 P ty o d i j T sz es ⟨t,r⟩ J ps=getE (es[i]?) (kst3 P ty o d i j T sz es ⟨t,r⟩ J ps):=(rfl)
def kst1 (P:Program) (ty:TypeId) (a:Operand) (d i j:Nat) (T:TypeId) (sz:Nat) (es:List (List PV)) (s:St) (J:St→Prop) (xs:List L):Prop:=Ht (F7 L.pure? xs) (kst2 P ty a d i j T sz es s J)
theorem U4 {o:Operand} {xs:List L}:kst1 P ty o d i j T sz es ⟨t,r⟩ J xs=Ht (F7 L.pure? xs) (kst2 P ty o d i j T sz es ⟨t,r⟩ J):=(rfl)
def Jnb (P:Program) (ty:TypeId) (a x:Operand) (d i j:Nat) (T:TypeId) (sz:Nat) (es:List (List PV)) (J:St→Prop) (s:St):Prop:=Ht (I7 (s.get x)) (kst1 P ty a d i j T sz es s J)
theorem Rs {o q:Operand}:Jnb P ty o q d i j T sz es J ⟨t,r⟩=Ht (I7 ((St.mk t r).get q)) (kst1 P ty o d i j T sz es ⟨t,r⟩ J):=(rfl)
def kls2 (P:Program) (ty:TypeId) (d i j:Nat) (T:TypeId) (sz:Nat) (f:Bool) (es:List (List L)) (s:St) (J:St→Prop) (xs:List L) (e:List L):Prop :=
 xs.length=P.cellsOf ty∧P.cellsOf ty≠0∧j+xs.length≤e.length∧J { s with regs:=H6 d (.lrow T sz f (es.set i (e.take j ++ xs ++ e.drop (j+xs.length)))) s.regs }
def kls (P:Program) (ty:TypeId) (d i j:Nat) (T:TypeId) (sz:Nat) (f:Bool) (es:List (List L)) (s:St) (J:St→Prop) (xs:List L):Prop:=getE (es[i]?) (kls2 P ty d i j T sz f es s J xs)
def stR (P:Program) (ty:TypeId) (s:St) (a x:Operand) (d i j:Nat) (J:St→Prop) (q:Option Reg):Prop :=
 match q with
 | some (.var T cs)=>Ht (I7 (s.get x)) (kst P ty d i j T cs s J)
 | some (.row T sz es)=>Jnb P ty a x d i j T sz es J (s.freezeOps [x])
 | some (.lrow T sz f es)=>Ht (I7 (s.get x)) (kls P ty d i j T sz f es s J)
 | some (.obj _)=>False
 | none=>False
def stA (P:Program) (ty:TypeId) (s:St) (a x:Operand) (J:St→Prop) (la:L):Prop :=
 match la with
 | .ptr d i j=>stR P ty s a x d i j J (Bh d s.regs)
 | _=>False
theorem Gl {o q:Operand}:Zm P ty ⟨t,r⟩ o q J=stA P ty ⟨t,r⟩ o q J ((St.mk t r).get o):=by
 unfold Zm stA stR Jnb kst1 kst2 kst3 kst kls kls2 Ht getE
 apply pe
 cases (St.mk t r).get o with
 | ptr d i j =>
  simp only
  cases Bh d r with
  | none=>exact Iff.rfl
  | some g =>
   cases g with
   | var T cs=>exact Iff.rfl
   | row T sz es=>exact Iff.rfl
   | lrow T sz f es=>exact Iff.rfl
   | obj o=>exact Iff.rfl
 | _=>exact Iff.rfl
theorem Jc {o q:Operand}:stA P ty ⟨t,r⟩ o q J (.ptr d i j)=stR P ty ⟨t,r⟩ o q d i j J (Bh d r):=(rfl)
theorem Fj {o q:Operand}:stR P ty ⟨t,r⟩ o q d i j J (some (.var T ls))=Ht (I7 ((St.mk t r).get q)) (kst P ty d i j T ls ⟨t,r⟩ J):=(rfl)
theorem Ob {o q:Operand}:stR P ty ⟨t,r⟩ o q d i j J (some (.row T sz es))=Jnb P ty o q d i j T sz es J (St.freezeOps ⟨t,r⟩ [q]):=(rfl)
def frz (s:St) (xs:List Operand):L→St
 | .own d _ _=>if d<1000 then (s.freeze d).freezeOps xs else s.freezeOps xs
 | .mref d=>if d<1000 then (s.freeze d).freezeOps xs else s.freezeOps xs
 | _=>s.freezeOps xs
theorem Ag:St.freezeOps ⟨t,r⟩ []=⟨t,r⟩:=(rfl)
theorem Ae {o:Operand} {os:List Operand}:St.freezeOps ⟨t,r⟩ (o :: os)=frz ⟨t,r⟩ os ((St.mk t r).get o):=by
 simp only [St.freezeOps,frz]
 cases (St.mk t r).get o <;> rfl
theorem A3 {os:List Operand} {v:PV}:frz ⟨t,r⟩ os (.p v)=St.freezeOps ⟨t,r⟩ os:=(rfl)
theorem Hi {os:List Operand}:frz ⟨t,r⟩ os (.ptr d i j)=St.freezeOps ⟨t,r⟩ os:=(rfl)
theorem Wp {os:List Operand}:frz ⟨t,r⟩ os (.mref d)=if d<1000 then (St.freeze d ⟨t,r⟩).freezeOps os else St.freezeOps ⟨t,r⟩ os:=(rfl)
theorem Jd8 {os:List Operand} {g:FuncId} {ids:List Nat}:frz ⟨t,r⟩ os (.fn g ids)=St.freezeOps ⟨t,r⟩ os:=(rfl)
theorem F8 {os:List Operand} {o m:Nat}:frz ⟨t,r⟩ os (.own d o m)=if d<1000 then (St.freeze d ⟨t,r⟩).freezeOps os else St.freezeOps ⟨t,r⟩ os:=(rfl)
theorem Gq:St.freeze d ⟨t,r⟩=Nu d (fzOf (Bh d r)) ⟨t,r⟩:=(rfl)
theorem Fk:fzOf (some (.row T sz es))=some (.rw es):=(rfl)
theorem Y2 {m:List (PV×PV)}:fzOf (some (.obj (.mp m)))=some (.mp m):=(rfl)
theorem Gs {z:Fz}:Nu d (some z) ⟨t,r⟩=⟨t.map (L.freeze d z),Kf d z r⟩:=(rfl)
def callT (X:Cx) (s:St) (args:List Operand) (dst:Option Tmp) (J:St→Prop) (l:L):Prop :=
 match l with
 | .fn g ids=>Uc X (X.kind g) g ids args s dst J
 | _=>False
theorem Cd {f:Operand} {args:List Operand} {dst:Option Tmp}:Jnf X ⟨t,r⟩ f args dst J=callT X ⟨t,r⟩ args dst J ((St.mk t r).get f):=(rfl)
theorem Bv {args:List Operand} {dst:Option Tmp} {g:FuncId} {ids:List Nat}:callT X ⟨t,r⟩ args dst J (.fn g ids)=Uc X (X.kind g) g ids args ⟨t,r⟩ dst J:=(rfl)
def callF (X:Cx) (g:FuncId) (ids:List Nat) (args:List Operand) (dst:Option Tmp) (J:St→Prop) (s:St):Prop:=Wk X g (args.map s.get ++ ids.map fun d=>L.ptr d 0 0) s dst J
theorem Bm {args:List Operand} {dst:Option Tmp} {g:FuncId} {ids:List Nat}:Uc X 0 g ids args ⟨t,r⟩ dst J=callF X g ids args dst J (St.freezeOps ⟨t,r⟩ args):=(rfl)
theorem Sv {args:List Operand} {dst:Option Tmp} {g:FuncId} {ids:List Nat}:Uc X 1 g ids args ⟨t,r⟩ dst J=callF X g ids args dst J ⟨t,r⟩:=(rfl)
theorem Jc9 {args:List Operand} {dst:Option Tmp} {g:FuncId}:Uc X 3 g [] args ⟨t,r⟩ dst J=lextR X g (args.map (St.mk t r).get) ⟨t,r⟩ dst J:=by
 show ([]=[]∧_)=_
 simp only [true_and]
theorem Jkt {args:List Operand} {dst:Option Tmp} {g:FuncId}:Uc X 2 g [] args ⟨t,r⟩ dst J=lext X g (args.map (St.mk t r).get) ⟨t,r⟩ dst J:=by
 show ([]=[]∧_)=_
 simp only [true_and]
theorem Bx {args:List Operand} {dst:Option Tmp} {g:FuncId} {ids:List Nat}:callF X g ids args dst J ⟨t,r⟩=Wk X g (args.map (St.mk t r).get ++ ids.map fun d=>L.ptr d 0 0) ⟨t,r⟩ dst J:=(rfl)
theorem Bw {ls:List L} {dst:Option Tmp} {g:FuncId}:Wk X g ls ⟨t,r⟩ dst J=Yx X g ls ⟨t,r⟩ (Jd6 (Mc [] (Jc6 ls)) r) dst J:=(rfl)
def Jco (dst:Option Tmp) (K:St→Prop) (s:St) (l:L) (rs':Regs):Prop:=Jfp [] dst K s l rs'
theorem Ew {ls:List L} {ρ:Ren} {x:Nat×Nat} {dst:Option Tmp} {g:FuncId}:Yx X g ls ⟨t,r⟩ (x :: ρ) dst J=Bz X g (ls.map (L.map (upId (x :: ρ)))) (K4 (x :: ρ) r) (Jfp (x :: ρ) dst J ⟨t,r⟩):=(rfl)
theorem Jbv:∀ (r:Regs),K4 [] r=[]
 | []=>rfl
 | (d,q) :: r=>by simp [K4,upId,Jbv r]
theorem A5 {ls:List L} {dst:Option Tmp} {g:FuncId}:Yx X g ls ⟨t,r⟩ [] dst J=Bz X g (ls.map (L.map (upId []))) [] (Jco dst J ⟨t,r⟩):=by
 unfold Yx Jco
 rw [Jbv]
theorem Ja6:∀ (l:L),l.map (Lj [])=l:=by
 have h:∀ ds,F7 (Lj []) ds=some ds:=by
  intro ds
  induction ds with
  | nil=>rfl
  | cons d ds ih=>simp only [F7,ih];simp [Lj]
 intro l
 cases l with
 | ptr d i j=>rfl
 | own d i j=>rfl
 | mref d=>rfl
 | fn g ds=>simp [L.map,h,L.fnO]
 | cfn g ds=>simp [L.map,h,L.cfnO]
 | _=>rfl
theorem Jin (q:Reg):q.map (Lj [])=q:=by
 cases q with
 | var T cs=>simp only [Reg.map];congr 1;exact (List.map_congr_left fun l _=>Ja6 l).trans (List.map_id _)
 | lrow T sz f es =>
  simp only [Reg.map];congr 1
  refine (List.map_congr_left fun e _=>?_).trans (List.map_id _)
  exact (List.map_congr_left fun l _=>Ja6 l).trans (List.map_id _)
 | _=>rfl
theorem Jdi:∀ (r:Regs),Lc [] none [] [] r=r
 | []=>rfl
 | (d,q) :: r=>by simp only [Lc,Yv,upId,if_true,Jin,Jdi r]
theorem Jq3 (s:St):s.after [] none []=s:=by
 obtain ⟨t,r⟩:=s
 simp only [St.after,Lr,Ql,List.filter_nil,List.map_nil,List.nil_append,Jdi]
 congr 1
 exact (List.map_congr_left fun l _=>Ja6 l).trans (List.map_id _)
def noId (_:Nat):Option Nat:=none
theorem Bq {dst:Option Tmp} {l:L}:Jco dst J ⟨t,r⟩ l []=J ((St.mk t r).put dst (l.map noId)):=by
 unfold Jco Jfp
 have e:Ni dst []=none:=rfl
 rw [e,Jq3]
 have e2:Ln [] none=noId:=by funext n;rfl
 rw [e2]
theorem H4 {dst:Option Tmp} {l:L} {rs':Regs} {x:Nat×Reg}:Jco dst J ⟨t,r⟩ l (x :: rs')=Jfp [] dst J ⟨t,r⟩ l (x :: rs'):=(rfl)
theorem Hv {dst:Option Tmp} {l:L} {rs':Regs} {ρ:Ren}:Jfp ρ dst J ⟨t,r⟩ l rs'=J ((St.after ρ (Ni dst rs') rs' ⟨t,r⟩).put dst (l.map (Ln ρ (Ni dst rs')))):=(rfl)
def Jlw (bad:List Nat) (t:List L):List L :=
 match bad with
 | []=>t
 | _=>t.map (L.map (Lj bad))
theorem J3:Jlw [] t=t:=(rfl)
theorem Dn {b:Nat} {bs:List Nat}:Jlw (b :: bs) t=t.map (L.map (Lj (b :: bs))):=(rfl)
def Jkq (bad:List Nat) (q:Reg):Reg :=
 match bad with
 | []=>q
 | _=>q.map (Lj bad)
theorem Jah {q:Reg}:Jkq [] q=q:=(rfl)
theorem G4 {b:Nat} {bs:List Nat} {q:Reg}:Jkq (b :: bs) q=q.map (Lj (b :: bs)):=(rfl)
theorem regBy_eq {bad:List Nat} {q:Reg}:Jkq bad q=q.map (Lj bad):=by
 cases bad with
 | nil=>exact (Jin q).symm
 | cons=>rfl
def R6:Ren→List Nat
 | []=>[]
 | (d,n) :: ρ=>if 500000≤n then d :: R6 ρ else R6 ρ
theorem Y0:∀ (ρ:Ren),(ρ.filter fun x=>decide (500000≤x.2)).map (·.1)=R6 ρ
 | []=>rfl
 | (d,n) :: ρ=>by
  simp only [R6,List.filter_cons,decide_eq_true_eq]
  split <;> simp [Y0 ρ]
theorem Fw {ρ:Ren}:Lr ρ none=R6 ρ:=Y0 ρ
theorem Gc {ρ:Ren} {x:Nat}:Lr ρ (some x)=x :: R6 ρ:=by simp only [Lr,Y0]
theorem Df:R6 []=[]:=(rfl)
theorem Eb {ρ:Ren} {a b:Nat}:R6 ((a,b) :: ρ)=if 500000≤b then a :: R6 ρ else R6 ρ:=(rfl)
theorem Gu {ρ:Ren} {nw:Option Nat} {rs':Regs}:St.after ρ nw rs' ⟨t,r⟩=⟨Jlw (Lr ρ nw) t,Ql ρ nw rs' ++ Lc ρ nw (Lr ρ nw) rs' r⟩:=by
 simp only [St.after]
 congr 1
 cases Lr ρ nw with
 | nil=>exact (List.map_congr_left fun l _=>Ja6 l).trans (List.map_id _)
 | cons=>rfl
def newF (ρ:Ren) (d:Nat):Option Reg→Regs
 | some r=>[(d,r.map (Ln ρ (some d)))]
 | none=>[]
theorem G5 {ρ:Ren} {rs':Regs}:Ql ρ none rs'=[]:=(rfl)
theorem Hm {ρ:Ren} {rs':Regs} {x:Nat}:Ql ρ (some x) rs'=newF ρ x (Bh 900 rs'):=by
 simp only [Ql,newF];cases Bh 900 rs' <;> rfl
theorem K8 {ρ:Ren} {x:Nat} {q:Reg}:newF ρ x (some q)=[(x,q.map (Ln ρ (some x)))]:=(rfl)
def oldF (e:Nat) (ρ:Ren) (nw:Option Nat) (rest:Regs):Option Reg→Regs
 | some r=>(e,r.map (Ln ρ nw)) :: rest
 | none=>rest
def oldN (e:Nat) (q:Reg) (ρ:Ren) (nw:Option Nat) (bad:List Nat) (rs' rest:Regs):Option Nat→Regs
 | some n=>oldF e ρ nw rest (Bh n rs')
 | none=>(e,Jkq bad q) :: rest
theorem E4 {ρ:Ren} {nw:Option Nat} {bad:List Nat} {rs':Regs}:Lc ρ nw bad rs' []=[]:=(rfl)
theorem E2 {ρ:Ren} {nw:Option Nat} {bad:List Nat} {rs':Regs} {e:Nat} {q:Reg}:Lc ρ nw bad rs' ((e,q) :: r)=if Yv nw e=true then oldN e q ρ nw bad rs' (Lc ρ nw bad rs' r) (upId ρ e) else Lc ρ nw bad rs' r:=by
 simp only [Lc,oldN,oldF,regBy_eq]
 split
 ·cases upId ρ e with
  | none=>rfl
  | some n=>simp only;cases Bh n rs' <;> rfl
 ·rfl
theorem Fg {ρ:Ren} {nw:Option Nat} {bad:List Nat} {rs' rest:Regs} {e n:Nat} {q:Reg}:oldN e q ρ nw bad rs' rest (some n)=oldF e ρ nw rest (Bh n rs'):=(rfl)
theorem Hr {ρ:Ren} {nw:Option Nat} {bad:List Nat} {rs' rest:Regs} {e:Nat} {q:Reg}:oldN e q ρ nw bad rs' rest none=(e,Jkq bad q) :: rest:=(rfl)
theorem Fm {ρ:Ren} {nw:Option Nat} {rest:Regs} {e:Nat} {q:Reg}:oldF e ρ nw rest (some q)=(e,q.map (Ln ρ nw)) :: rest:=(rfl)
theorem Lv {ρ:Ren} {nw:Option Nat} {rest:Regs} {e:Nat}:oldF e ρ nw rest none=rest:=(rfl)
theorem Fi {e:Nat}:Yv none e=true:=(rfl)
theorem G9 {x e:Nat}:Yv (some x) e=decide (e≠x):=(rfl)
def newO (dst:Option Tmp):Bool→Option Nat
 | true=>some (match dst with | some d=>if d<900 then d else 990 | none=>990)
 | false=>none
theorem Gv {dst:Option Tmp} {rs':Regs}:Ni dst rs'=newO dst (findKey 900 rs'):=by
 simp only [Ni,newO];cases findKey 900 rs' <;> rfl
theorem Ih {dst:Option Tmp}:newO dst false=none:=(rfl)
theorem Jd {x:Tmp}:newO (some x) true=some (if x<900 then x else 990):=(rfl)
theorem Je5:newO none true=some 990:=(rfl)
theorem Dp {e:Nat}:findKey e []=false:=(rfl)
theorem Bk {e a:Nat} {q:Reg}:findKey e ((a,q) :: r)=if a=e then true else findKey e r:=(rfl)
theorem I4 {e:Nat}:upId [] e=none:=(rfl)
theorem Dt {ρ:Ren} {a b e:Nat}:upId ((a,b) :: ρ) e=if a=e then some b else upId ρ e:=(rfl)
theorem Hz {ρ:Ren} {a b e:Nat}:dnId ((a,b) :: ρ) e=if b=e then some a else dnId ρ e:=(rfl)
def Jq6 (x:Nat):Option Nat→Option Nat
 | some e=>if e=x then none else some e
 | none=>none
theorem Hx {ρ:Ren} {e:Nat}:Ln ρ none e=dnId ρ e:=(rfl)
theorem Gx {ρ:Ren} {x e:Nat}:Ln ρ (some x) e=if e=900 then some x else Jq6 x (dnId ρ e):=by
 simp only [Ln,Jq6];cases dnId ρ e <;> rfl
theorem M9 {x e:Nat}:Jq6 x (some e)=if e=x then none else some e:=(rfl)
theorem Fh {b:Nat} {bs:List Nat} {e:Nat}:Lj (b :: bs) e=if e=b then none else Lj bs e:=by
 simp only [Lj,List.contains_cons,Bool.or_eq_true,beq_iff_eq]
 by_cases h:e=b <;> simp [h]
theorem Fx {e:Nat}:Lj [] e=some e:=(rfl)
theorem E8 {a b e:Nat}:O3 a b e=if e=a then some b else if e=b then none else some e:=(rfl)
theorem F2 {ρ:Ren}:K4 ρ []=[]:=(rfl)
def upF (ρ:Ren) (q:Reg) (rest:Regs):Option Nat→Regs
 | some n=>(n,q.map (upId ρ)) :: rest
 | none=>rest
theorem Ff {ρ:Ren} {a:Nat} {q:Reg}:K4 ρ ((a,q) :: r)=upF ρ q (K4 ρ r) (upId ρ a):=by
 simp only [K4,upF];cases upId ρ a <;> rfl
theorem Fe {ρ:Ren} {q:Reg} {rest:Regs} {e:Nat}:upF ρ q rest (some e)=(e,q.map (upId ρ)) :: rest:=(rfl)
theorem Ji {ρ:Ren} {q:Reg} {rest:Regs}:upF ρ q rest none=rest:=(rfl)
theorem Dy {f:Nat→Option Nat}:Reg.map f (.var T ls)=.var T (ls.map (L.map f)):=(rfl)
theorem C1 {f:Nat→Option Nat}:Reg.map f (.row T sz es)=.row T sz es:=(rfl)
theorem O8 {f:Nat→Option Nat} {fu:Bool} {ll:List (List L)}:Reg.map f (.lrow T sz fu ll)=.lrow T sz fu (ll.map fun e=>e.map (L.map f)):=(rfl)
theorem X4 {f:Nat→Option Nat} {o:PObj}:Reg.map f (.obj o)=.obj o:=(rfl)
theorem B3 {f:Nat→Option Nat} {v:PV}:L.map f (.p v)=.p v:=(rfl)
theorem E3 {f:Nat→Option Nat}:L.map f (.ptr d i j)=L.ptrO (f d) i j:=(rfl)
theorem Dl {f:Nat→Option Nat} {o m:Nat}:L.map f (.own d o m)=L.ownO (f d) o m:=(rfl)
theorem Tk {f:Nat→Option Nat} {g:FuncId} {ids:List Nat}:L.map f (.fn g ids)=L.fnO g (F7 f ids):=(rfl)
theorem Il {f:Nat→Option Nat}:L.map f (.eptr cs)=.eptr cs:=(rfl)
theorem Joy {f:Nat→Option Nat} {l:Nat}:L.map f (.yld l)=.yld l:=(rfl)
theorem Fc {f:Nat→Option Nat} {xs:List PV}:L.map f (.tup xs)=.tup xs:=(rfl)
theorem Hq {f:Nat→Option Nat}:L.map f .junk=.junk:=(rfl)
theorem F9 {e:Nat}:L.ptrO (some e) i j=.ptr e i j:=(rfl)
theorem Ek {e o m:Nat}:L.ownO (some e) o m=.own e o m:=(rfl)
theorem Xe {g:FuncId} {ids:List Nat}:L.fnO g (some ids)=.fn g ids:=(rfl)
theorem u_ownN {o m:Nat}:L.ownO none o m=.junk:=(rfl)
theorem Bi {ls:List L}:Jc6 ls=ls.flatMap L.ids:=(rfl)
theorem Ay {old:List Nat}:Mc old []=[]:=(rfl)
theorem Ev {old:List Nat} {a:Nat} {ds:List Nat}:Mc old (a :: ds)=if old.contains a=true then Mc old ds else a :: Mc (a :: old) ds:=(rfl)
theorem A4:Jd6 [] r=[]:=(rfl)
theorem Et {a:Nat} {ds:List Nat}:Jd6 (a :: ds) r=Jbg (a :: ds) (Jia (a :: ds) (Zn (a :: ds) r) r):=(rfl)
theorem Gw {D I:List Nat}:Jbg D I=Q2 0 D ++ Pc D.length I:=(rfl)
theorem Ey {m:Nat}:Q2 m []=[]:=(rfl)
theorem Ee {m a:Nat} {ds:List Nat}:Q2 m (a :: ds)=if m<400000 then (a,1000+m) :: Q2 (m+1) ds else []:=(rfl)
theorem Ez {m:Nat}:Pc m []=[]:=(rfl)
theorem Hk {m a:Nat} {ds:List Nat}:Pc m (a :: ds)=if m<400000 then (a,if 1000≤a∧a<500000 then 1000+m else 500000+m) :: Pc (m+1) ds else []:=(rfl)
theorem Ho {D:List Nat}:Zn D r=Mc D (P4 D r):=(rfl)
theorem Hp {D I:List Nat}:Jia D I r=I ++ Mc (D ++ I) (P4 I r):=(rfl)
theorem Eu {ids:List Nat}:P4 ids []=[]:=(rfl)
theorem Ed {ids:List Nat} {a:Nat} {q:Reg}:P4 ids ((a,q) :: r)=if ids.contains a=true then q.ids ++ P4 ids r else P4 ids r:=(rfl)
theorem Zr:X6 d ⟨t,r⟩ J=(d<1000∧J ((St.newReg d (.obj (.mp [])) ⟨t,r⟩).put (some d) (.mref d))):=(rfl)
def rgT (d:Nat) (o:Option TypeDesc) (s:St) (l:L) (J:St→Prop):Prop :=
 match o,l with
 | some .string,.p (.str u)=>J ((s.newReg d (.obj (.sit u 0))).put (some d) (.ptr d 0 0))
 | some (.map _ _),.p .nmap=>J ((s.newReg d (.obj (.mit [] []))).put (some d) (.ptr d 0 0))
 | some (.map _ _),.p (.mp es)=>J ((s.newReg d (.obj (.mit es []))).put (some d) (.ptr d 0 0))
 | _,_=>False
theorem Vp {o:Operand}:Jhq P d ty ⟨t,r⟩ o J=(d<1000∧rgT d (P.underlying ty) ⟨t,r⟩ ((St.mk t r).get o) J):=(rfl)
theorem Uw:rgT d (some .string) ⟨t,r⟩ (.p (.str x)) J=J ((St.newReg d (.obj (.sit x 0)) ⟨t,r⟩).put (some d) (.ptr d 0 0)):=(rfl)
theorem Jm8 {k1 e1:TypeId} {m:List (PV×PV)}:rgT d (some (.map k1 e1)) ⟨t,r⟩ (.p (.mp m)) J=J ((St.newReg d (.obj (.mit m [])) ⟨t,r⟩).put (some d) (.ptr d 0 0)):=(rfl)
def nxT (s:St) (b:Bool) (N:St→L→Prop) (l:L):Prop :=
 match l with
 | .ptr d 0 0=>match Bh d s.regs,b with
  | some (.obj (.sit u pos)),true=>(pos<u.length→N { s with regs:=H6 d (.obj (.sit u (pos+(Utf8.decode ⟨⟨u⟩⟩ pos).2))) s.regs } (.tup [.bool true,.int .i64 pos,.int .i32 (Utf8.decode ⟨⟨u⟩⟩ pos).1])) ∧
    (¬ pos<u.length→N s (.tup [.bool false]))
  | some (.obj (.mit es seen)),false=>(∀ i p,es[i]? = some p→i ∉ seen→N { s with regs:=H6 d (.obj (.mit es (seen ++ [i]))) s.regs } (.tup [.bool true,p.1,p.2])) ∧
    ((∀ i,i<es.length→i∈seen)→N s (.tup [.bool false]))
  | _,_=>False
 | _=>False
def nxS (s:St) (d:Nat) (N:St→L→Prop):Option Reg→Prop
 | some (.obj (.sit u pos))=>if pos<u.length then N { s with regs:=H6 d (.obj (.sit u (pos+(Utf8.decode ⟨⟨u⟩⟩ pos).2))) s.regs } (.tup [.bool true,.int .i64 pos,.int .i32 (Utf8.decode ⟨⟨u⟩⟩ pos).1]) else N s (.tup [.bool false])
 | _=>False
def nxM (s:St) (d:Nat) (N:St→L→Prop):Option Reg→Prop
 | some (.obj (.mit es seen))=>(∀ i p,es[i]? = some p→i ∉ seen→N { s with regs:=H6 d (.obj (.mit es (seen ++ [i]))) s.regs } (.tup [.bool true,p.1,p.2])) ∧
    ((∀ i,i<es.length→i∈seen)→N s (.tup [.bool false]))
 | _=>False
variable {N:St→L→Prop}
theorem U9 {o:Operand} {b:Bool}:Jj5 ⟨t,r⟩ o b N=nxT ⟨t,r⟩ b N ((St.mk t r).get o):=(rfl)
theorem S4:nxT ⟨t,r⟩ true N (.ptr d 0 0)=nxS ⟨t,r⟩ d N (Bh d r):=by
 simp only [nxT,nxS]
 cases Bh d r with
 | none=>rfl
 | some g =>
  cases g with
  | obj o =>
   cases o with
   | sit u pos=>apply pe;by_cases h:pos<u.length <;> simp [h]
   | _=>rfl
  | _=>rfl
theorem Jog:nxT ⟨t,r⟩ false N (.ptr d 0 0)=nxM ⟨t,r⟩ d N (Bh d r):=by
 simp only [nxT,nxM]
 cases Bh d r with
 | none=>rfl
 | some g =>
  cases g with
  | obj o=>cases o <;> rfl
  | _=>rfl
theorem Jei {pos:Nat}:nxS ⟨t,r⟩ d N (some (.obj (.sit x pos)))=if pos<x.length then N ⟨t,H6 d (.obj (.sit x (pos+(Utf8.decode ⟨⟨x⟩⟩ pos).2))) r⟩ (.tup [.bool true,.int .i64 pos,.int .i32 (Utf8.decode ⟨⟨x⟩⟩ pos).1]) else N ⟨t,r⟩ (.tup [.bool false]):=(rfl)
theorem
    u_nxM {m:List (PV×PV)} {seen:List Nat}:nxM ⟨t,r⟩ d N (some (.obj (.mit m seen)))=((∀ i p,m[i]? = some p→i ∉ seen→N ⟨t,H6 d (.obj (.mit m (seen ++ [i]))) r⟩ (.tup [.bool true,p.1,p.2])) ∧
    ((∀ i,i<m.length→i∈seen)→N ⟨t,r⟩ (.tup [.bool false]))):=(rfl)
def enT (r:Regs) (K:L→Prop) (l:L):Prop :=
 match l with
 | .ptr d 0 0=>match Bh d r with
  | some (.obj (.mit es seen))=>∃ i,seen.getLast? = some i∧∃ p,es[i]? = some p∧K (.tup [p.1,p.2])
  | _=>False
 | _=>False
def enM (K:L→Prop):Option Reg→Prop
 | some (.obj (.mit es seen))=>∃ i,seen.getLast? = some i∧∃ p,es[i]? = some p∧K (.tup [p.1,p.2])
 | _=>False
theorem Joa {o:Operand}:Jdg ⟨t,r⟩ o K=enT r K ((St.mk t r).get o):=(rfl)
theorem u_enT:enT r K (.ptr d 0 0)=enM K (Bh d r):=(rfl)
theorem u_enM {m:List (PV×PV)} {seen:List Nat} {q:Nat}:enM K (some (.obj (.mit m (seen ++ [q])))) = ∃ p,m[q]? = some p∧K (.tup [p.1,p.2]):=by
 apply pe
 simp [enM]
def muS (P:Program) (d:Nat) (s:St) (J:St→Prop) (es':List (PV×PV)):Prop:=J { s with regs:=H6 d (.obj (.mp es')) s.regs }
theorem Jna {m:List (PV×PV)}:muS P d ⟨t,r⟩ J m=J ⟨t,H6 d (.obj (.mp m)) r⟩:=(rfl)
def muR (P:Program) (d:Nat) (o:Option (TypeId×TypeId)) (lk lv:L) (s:St) (J:St→Prop) (q:Option Reg):Prop :=
 match q,o,lk,lv with
 | some (.obj (.mp es)),some (kt,_),.p kp,.p vp=>L1 P kt kp=true∧Ht (mput kp vp es) (muS P d s J)
 | _,_,_,_=>False
def muT (P:Program) (ty:TypeId) (k v:Operand) (J:St→Prop) (s:St) (l:L):Prop :=
 match l with
 | .mref d=>muR P d (mapT P ty) (s.get k) (s.get v) s J (Bh d s.regs)
 | _=>False
def muF (P:Program) (ty:TypeId) (m k v:Operand) (J:St→Prop) (s:St):Prop:=muT P ty k v J s (s.get m)
theorem Uj {o1 o2 o3:Operand}:Mn P ty ⟨t,r⟩ o1 o2 o3 J=muF P ty o1 o2 o3 J (St.freezeOps ⟨t,r⟩ [o3]):=by
 unfold Mn muF muT muR Ht muS
 generalize St.freezeOps ⟨t,r⟩ [o3]=s
 cases s.get o1 <;> rfl
theorem Jq0 {o1 o2 o3:Operand}:muF P ty o1 o2 o3 J ⟨t,r⟩=muT P ty o2 o3 J ⟨t,r⟩ ((St.mk t r).get o1):=(rfl)
theorem u_muT {o2 o3:Operand}:muT P ty o2 o3 J ⟨t,r⟩ (.mref d)=muR P d (mapT P ty) ((St.mk t r).get o2) ((St.mk t r).get o3) ⟨t,r⟩ J (Bh d r):=(rfl)
theorem u_muR {kt et:TypeId} {v w:PV} {m:List (PV×PV)}:muR P d (some (kt,et)) (.p v) (.p w) ⟨t,r⟩ J (some (.obj (.mp m)))=(L1 P kt v=true∧Ht (mput v w m) (muS P d ⟨t,r⟩ J)):=(rfl)
def mdR (P:Program) (d:Nat) (o:Option (TypeId×TypeId)) (lk:L) (s:St) (J:St→Prop) (q:Option Reg):Prop :=
 match q,o,lk with
 | some (.obj (.mp es)),some (kt,_),.p kp=>L1 P kt kp=true∧Ht (mdel kp es) (muS P d s J)
 | _,_,_=>False
def mdT (P:Program) (ty:TypeId) (k:Operand) (J:St→Prop) (s:St) (l:L):Prop :=
 match l with
 | .mref d=>mdR P d (mapT P ty) (s.get k) s J (Bh d s.regs)
 | _=>False
theorem Jj6 {o1 o2:Operand}:Vk P ty ⟨t,r⟩ o1 o2 J=mdT P ty o2 J ⟨t,r⟩ ((St.mk t r).get o1):=by
 unfold Vk mdT mdR Ht muS
 cases (St.mk t r).get o1 <;> rfl
theorem u_mdT {o2:Operand}:mdT P ty o2 J ⟨t,r⟩ (.mref d)=mdR P d (mapT P ty) ((St.mk t r).get o2) ⟨t,r⟩ J (Bh d r):=(rfl)
theorem u_mdR {kt et:TypeId} {v:PV} {m:List (PV×PV)}:mdR P d (some (kt,et)) (.p v) ⟨t,r⟩ J (some (.obj (.mp m)))=(L1 P kt v=true∧Ht (mdel v m) (muS P d ⟨t,r⟩ J)):=(rfl)
def lkV (ok:Bool) (K:L→Prop) (z:PV) (q:Option (Nat×PV)):Prop :=
 K
  (match q,ok with
  | some (_,v),true=>.tup [v,.bool true]
  | none,true=>.tup [z,.bool false]
  | some (_,v),false=>.p v
  | none,false=>.p z)
def lkZ (oz:Option PV) (ok:Bool) (K:L→Prop) (q:Option (Nat×PV)):Prop:=∃ z,oz=some z∧lkV ok K z q
def lkT (P:Program) (om:Option (TypeId×TypeId)) (oe:Option (List (PV×PV))) (ix:L) (ok:Bool) (K:L→Prop):Prop :=
 match om,oe,ix with
 | some (kt,et),some es,.p k=>L1 P kt k=true∧Ht (Ka k es 0) (lkZ (O2 P et) ok K)
 | _,_,_=>False
theorem Sz {o1 o2:Operand} {b:Bool}:lqvK P r ⟨t,r⟩ (.lookup ty o1 o2 b) K=lkT P (mapT P ty) (Jfc r ((St.mk t r).get o1)) ((St.mk t r).get o2) b K:=by
 apply pe
 show (∃ l,Ji4 P r ty ((St.mk t r).get o1) ((St.mk t r).get o2) b l∧K l) ↔ _
 unfold Ji4 lkT
 generalize mapT P ty=a
 generalize Jfc r ((St.mk t r).get o1)=c
 generalize (St.mk t r).get o2=q
 cases a with
 | none=>simp
 | some a =>
  cases c with
  | none=>simp
  | some c =>
   cases q <;> simp only [false_and,exists_false,Ht,lkZ,lkV]
   constructor
   ·rintro ⟨l,⟨h1,q,h2,z,h3,rfl⟩,hK⟩;exact ⟨h1,q,h2,z,h3,hK⟩
   ·rintro ⟨h1,q,h2,z,h3,hK⟩;exact ⟨_,⟨h1,q,h2,z,h3,rfl⟩,hK⟩
theorem Jgb {kt et:TypeId} {m:List (PV×PV)} {v:PV} {b:Bool}:lkT P (some (kt,et)) (some m) (.p v) b K=(L1 P kt v=true∧Ht (Ka v m 0) (lkZ (O2 P et) b K)):=(rfl)
theorem Jj2 {z:PV} {b:Bool} {q:Option (Nat×PV)}:lkZ (some z) b K q=lkV b K z q:=pe ⟨fun ⟨_,h,hc⟩=>by cases h;exact hc,fun h=>⟨z,rfl,h⟩⟩
theorem Jcq {z v:PV} {i:Nat}:lkV true K z (some (i,v))=K (.tup [v,.bool true]):=(rfl)
theorem Jdp {z:PV}:lkV true K z none=K (.tup [z,.bool false]):=(rfl)
theorem Pb {m:List (PV×PV)}:Jfc r (.p (.mp m))=some m:=(rfl)
def kfitO (o:Option TypeDesc) (v:PV):Bool:=match o with | some d=>kfit d v | none=>false
theorem Oj {kt:TypeId} {v:PV}:L1 P kt v=kfitO (P.underlying kt) v:=(rfl)
theorem Lw {q q':IntKind} {n:Int}:kfitO (some (.int q)) (.int q' n)=(q == q'):=(rfl)
theorem Jos {k:IntKind}:(∃ d,some (TypeDesc.int k)=some d∧∀ ms,¬ d=.interface ms)=True:=eq_true ⟨_,rfl,fun _ h=>by cases h⟩
theorem Jnx {T:TypeId} {q:IntKind} {n:Int}:Xp T (.p (.int q n))=.ifi T q n:=(rfl)
theorem Ja8 {o:Operand}:lqvK P r ⟨t,r⟩ (.makeInterface ty o) K=((∃ d,P.underlying ty=some d∧∀ ms,d≠.interface ms)∧K (.p (Xp ty ((St.mk t r).get o)))):=by
 apply pe
 constructor
 ·rintro ⟨l,⟨h,rfl⟩,hK⟩;exact ⟨h,hK⟩
 ·rintro ⟨h,hK⟩;exact ⟨_,⟨h,rfl⟩,hK⟩
def usdV (K:L→Prop) (l:L):Prop :=
 match l with
 | .p .snil=>K (.p .nptr)
 | .own d off n=>0<n∧K (.ptr d off 0)
 | _=>False
theorem Jrg {o:Operand}:lqvK P r ⟨t,r⟩ (.call { callee:=.builtin .unsafeSliceData,args:=#[o],argTypes:=#[ty] }) K=usdV K ((St.mk t r).get o):=by
 apply pe
 show (∃ l,(match (St.mk t r).get o with | .p .snil=>l=.p .nptr | .own d off n=>0<n∧l=.ptr d off 0 | _=>False)∧K l) ↔ _
 unfold usdV
 split
 ·constructor
  ·rintro ⟨l,rfl,h⟩;exact h
  ·intro h;exact ⟨_,rfl,h⟩
 ·constructor
  ·rintro ⟨l,⟨h1,rfl⟩,h⟩;exact ⟨h1,h⟩
  ·rintro ⟨h1,h⟩;exact ⟨_,⟨h1,rfl⟩,h⟩
 ·simp
theorem Jcv:usdV K (.p .snil)=K (.p .nptr):=(rfl)
theorem Jb4 {o m:Nat}:usdV K (.own d o m)=(0<m∧K (.ptr d o 0)):=(rfl)
theorem Jb9 {dst:Option Tmp} {o2:Operand} {t1:TypeId}:Jor X t1 dst o2 J ⟨t,r⟩ (.p .nptr)=((∃ k,(St.mk t r).get o2=.p (.int k 0))∧J ((St.mk t r).put dst (.p (.str [])))):=(rfl)
theorem Jep {dst:Option Tmp} {o2:Operand} {t1:TypeId}:Jor X t1 dst o2 J ⟨t,r⟩ (.ptr d 0 0)=usT X.P (X.P.underlying t1) d ⟨t,r⟩ (kput dst J) ((St.mk t r).get o2):=(rfl)
theorem u_usT {o:Option TypeDesc} {v:Int}:usT P o d ⟨t,r⟩ N (.p (.int .i64 v))=usR P o d v ⟨t,r⟩ N (Bh d r):=(rfl)
def usB (d:Nat) (n:Int) (s:St) (N:St→L→Prop) (bs:List UInt8):Prop:=n=bs.length∧bs≠[]∧bs.length≤9223372036854775807∧N (s.forget d) (.p (.str bs))
theorem u_usB {v:Int} {bs:List UInt8}:usB d v ⟨t,r⟩ N bs=(v=bs.length∧bs≠[]∧bs.length≤9223372036854775807∧N (St.forget d ⟨t,r⟩) (.p (.str bs))):=(rfl)
theorem u_usR {o:Option TypeDesc} {v:Int}:usR P o d v ⟨t,r⟩ N (some (.row T 1 es))=(o=some (.pointer T)∧P.cellsOf T=1∧Ht (K0 es) (usB d v ⟨t,r⟩ N)):=(rfl)
def kmk (d:Nat) (e:TypeId) (sz:Nat) (s:St) (n:Nat) (J:St→Prop) (zs:List PV):Prop:=zs.length=sz∧J ((s.newReg d (.row e sz (List.replicate n zs))).put (some d) (.own d 0 n))
theorem u_kmk {zs:List PV}:kmk d e sz ⟨t,r⟩ n J zs=(zs.length=sz∧J ((St.newReg d (.row e sz (List.replicate n zs)) ⟨t,r⟩).put (some d) (.own d 0 n))):=(rfl)
def fits (b:Option Nat) (c lim:Int):Prop:=∃ x,b=some x∧(x:Int) * c≤lim
theorem u_fits {x:Nat} {c lim:Int}:fits (some x) c lim=((x:Int) * c≤lim):=pe ⟨fun ⟨_,h,hc⟩=>by cases h;exact hc,fun h=>⟨x,rfl,h⟩⟩
def mkT (P:Program) (d:Nat) (o:Option (TypeId×Nat)) (s:St) (l c:L) (J:St→Prop):Prop :=
 match o,l,c with
 | some (e,sz),.p (.int _ l),.p (.int _ c)=>0≤l∧l≤c∧fits (Hu P e) c 281474976710656∧c≤9223372036854775807∧Ht (Ik P e) (kmk d e sz s l.toNat J)
 | _,_,_=>False
theorem Z5 {l c:Operand}:Qt P d ty ⟨t,r⟩ l c J=(d<1000∧mkT P d (slE P ty) ⟨t,r⟩ ((St.mk t r).get l) ((St.mk t r).get c) J):=by
 unfold Qt mkT fits Ht kmk
 rfl
theorem u_mkT:mkT P d (some (e,sz)) ⟨t,r⟩ (.p (.int k a)) (.p (.int k' b)) J=(0≤a∧a≤b∧fits (Hu P e) b 281474976710656∧b≤9223372036854775807∧Ht (Ik P e) (kmk d e sz ⟨t,r⟩ a.toNat J)):=(rfl)
def kbs2 (d:Nat) (e:TypeId) (sz n:Nat) (s:St) (J:St→Prop) (es:List (List PV)):Prop:=J ((s.newReg d (.row e sz es)).put (some d) (.own d 0 n))
theorem Ib:kbs2 d e sz n ⟨t,r⟩ J es=J ((St.newReg d (.row e sz es) ⟨t,r⟩).put (some d) (.own d 0 n)):=(rfl)
def kbs (d:Nat) (e:TypeId) (sz n:Nat) (parts:List (Nat×Operand)) (J:St→Prop) (s:St):Prop :=
 U6 0 (parts.map fun (i,x)=>(i,s.get x))=true∧Ht (Mg sz (parts.map fun (i,x)=>(i,s.get x))) (kbs2 d e sz n s J)
theorem Jm {parts:List (Nat×Operand)}:kbs d e sz n parts J ⟨t,r⟩=(U6 0 (parts.map fun (i,x)=>(i,(St.mk t r).get x))=true∧Ht (Mg sz (parts.map fun (i,x)=>(i,(St.mk t r).get x))) (kbs2 d e sz n ⟨t,r⟩ J)):=(rfl)
def zok (o:Option (List PV)) (sz:Nat):Prop:=∃ zs,o=some zs∧zs.length=sz
theorem Ii {zs:List PV}:zok (some zs) sz=(zs.length=sz):=pe ⟨fun ⟨_,h,hc⟩=>by cases h;exact hc,fun h=>⟨zs,rfl,h⟩⟩
def bsT (P:Program) (d:Nat) (o:Option (TypeId×Nat)) (n:Nat) (s:St) (parts:List (Nat×Operand)) (J:St→Prop):Prop :=
 match o with
 | some (e,sz)=>n * sz≤16777216∧zok (Ik P e) sz∧parts.length=n∧kbs d e sz n parts J (s.freezeOps (parts.map (·.2)))
 | none=>False
theorem Dh {parts:List (Nat×Operand)}:Ps P d ty n ⟨t,r⟩ parts J=(d<1000∧n≤16777216∧bsT P d (slE P ty) n ⟨t,r⟩ parts J):=by
 unfold Ps bsT kbs kbs2 Ht zok
 rfl
theorem Jl {parts:List (Nat×Operand)}:bsT P d (some (e,sz)) n ⟨t,r⟩ parts J=(n * sz≤16777216∧zok (Ik P e) sz∧parts.length=n∧kbs d e sz n parts J (St.freezeOps ⟨t,r⟩ (parts.map (·.2)))):=(rfl)
theorem Gz:U6 n []=true:=(rfl)
theorem G8 {x:L} {rest:List (Nat×L)}:U6 n ((i,x) :: rest)=(i == n && U6 (n+1) rest):=(rfl)
def ppA:Option (List L)→Option (List PV)
 | some xs=>F7 L.pure? xs
 | none=>none
theorem Ha {xs:List L}:ppA (some xs)=F7 L.pure? xs:=(rfl)
def ppC (sz:Nat) (o:Option (List PV)) (os:Option (List (List PV))):Option (List (List PV)) :=
 match o,os with
 | some ps,some es=>if ps.length=sz then some (ps :: es) else none
 | _,_=>none
theorem G6 {ps:List PV}:ppC sz (some ps) (some es)=if ps.length=sz then some (ps :: es) else none:=(rfl)
theorem H7:Mg sz []=some []:=(rfl)
theorem H1 {x:L} {rest:List (Nat×L)}:Mg sz ((i,x) :: rest)=ppC sz (ppA (I7 x)) (Mg sz rest):=by
 simp only [Mg,ppC,ppA]
 cases I7 x with
 | none=>rfl
 | some xs =>
  simp only
  cases F7 L.pure? xs with
  | none=>rfl
  | some ps =>
   simp only
   cases Mg sz rest with
   | none=>split <;> rfl
   | some es=>rfl
def Ux (b:Option Nat) (m:Nat):Prop:=∃ x,b=some x∧m * x≤140737488355328
theorem G0 {m x:Nat}:Ux (some x) m=(m * x≤140737488355328):=pe ⟨fun ⟨_,h,hc⟩=>by cases h;exact hc,fun h=>⟨x,rfl,h⟩⟩
def apX (P:Program) (tt:Prop) (d:Nat) (e sz:Nat) (s:St) (lx:L) (J:St→Prop) (es':List (List PV)):Prop :=
 (∀ q∈es',q.length=sz)∧match lx with
  | .own d0 0 n=>match Bh d0 s.regs with
   | some (.row T sz' es)=>T=e∧sz'=sz∧es.length=n∧(∃ b,Hu P e=some b∧(n+es'.length) * b≤140737488355328)∧n+es'.length≤9223372036854775807 ∧
     J (((s.forget d0).newReg d (.row e sz (es ++ es'))).put (some d) (.own d 0 (n+es'.length)))
   | some (.lrow T sz' true es)=>T=e∧sz'=sz∧tt∧Px P d e sz s n es es' J
   | _=>False
  | .p .snil=>(∃ b,Hu P e=some b∧es'.length * b≤140737488355328)∧es'.length≤9223372036854775807∧J ((s.newReg d (.row e sz es')).put (some d) (.own d 0 es'.length))
  | _=>False
def apR (P:Program) (tt:Prop) (b:Option Nat) (d:Nat) (e sz:Nat) (s:St) (d0 n:Nat) (J:St→Prop) (es':List (List PV)) (q:Option Reg):Prop :=
 match q with
 | some (
     .row T sz' es)=>T=e∧sz'=sz∧es.length=n∧Ux b (n+es'.length)∧n+es'.length≤9223372036854775807 ∧
     J (((s.forget d0).newReg d (.row e sz (es ++ es'))).put (some d) (.own d 0 (n+es'.length)))
 | some (.lrow T sz' true es)=>T=e∧sz'=sz∧tt∧Px P d e sz s n es es' J
 | _=>False
def apZR (P:Program) (d e sz:Nat) (s:St) (m:Int) (J:St→Prop) (n:Nat) (zs:List PV):Option Reg→Prop
 | some (.lrow T sz' true es)=>T=e∧sz'=sz∧Px P d e sz s n es (List.replicate m.toNat zs) J
 | _=>False
def apZN (bb:Option Nat) (d e sz:Nat) (s:St) (m:Int) (J:St→Prop) (zs:List PV):Prop :=
 zs.length=sz∧Ux bb m.toNat∧m≤9223372036854775807∧J ((s.newReg d (.row e sz [])).put (some d) (.own d 0 m.toNat))
def apZX (P:Program) (d e sz:Nat) (s:St) (m:Int) (J:St→Prop) (lx:L) (zs:List PV):Prop :=
 match lx with
  | .own d0 0 n=>sz=1∧zs.length=1∧apZR P d e sz s m J n zs (Bh d0 s.regs)
  | .p .snil=>apZN (Hu P e) d e sz s m J zs
  | _=>False
def Ji8:Option TypeDesc→Prop
 | some (.int _)=>True
 | _=>False
theorem Jbj:Ji8 (some (.int k))=True:=(rfl)
def apT (P:Program) (t1 t2:TypeId) (d:Nat) (o:Option (TypeId×Nat)) (s:St) (lx ly:L) (J:St→Prop):Prop :=
 match o with
 | some (e,sz)=>match ly with
  | .p (.int _ m)=>Ji8 (P.underlying t2)∧0<m∧Ht (Ik P e) (apZX P d e sz s m J lx)
  | _=>zok (Ik P e) sz∧Ht (Q7 P t1 t2 e s ly) (apX P (t1=t2) d e sz s lx J)
 | none=>False
theorem F1 {t1 t2:TypeId} {o q:Operand}:Vx P d t1 t2 ⟨t,r⟩ o q J=(d<1000∧apT P t1 t2 d (slE P t1) ⟨t,r⟩ ((St.mk t r).get o) ((St.mk t r).get q) J):=by
 unfold Vx
 split
 ·rename_i kq m hg
  rw [hg]
  unfold apT
  cases slE P t1 with
  | none=>rfl
  | some p =>
   obtain ⟨e,sz⟩:=p
   simp only [Jjp,Ht,apZX,apZN,Ux]
   have h1:(∃ k,P.underlying t2=some (.int k)) ↔ Ji8 (P.underlying t2):=by
    unfold Ji8
    split
    ·rename_i k h;exact ⟨fun _=>trivial,fun _=>⟨k,h⟩⟩
    ·rename_i h;exact ⟨fun ⟨k,hk⟩=>h k hk,fun h=>h.elim⟩
   rw [h1]
   rfl
 ·rename_i h
  unfold Jcu apT
  cases slE P t1 with
  | none=>rfl
  | some p =>
   obtain ⟨e,sz⟩:=p
   generalize (St.mk t r).get q=ly at *
   cases ly with
   | p x =>
    cases x with
    | int k m=>exact (h _ _ rfl).elim
    | _=>unfold apX zok Ht;rfl
   | _=>unfold apX zok Ht;rfl
theorem Vm {t1 t2:TypeId} {lx:L} {m:Int}:apT P t1 t2 d (some (e,sz)) ⟨t,r⟩ lx (.p (.int k m)) J=(Ji8 (P.underlying t2)∧0<m∧Ht (Ik P e) (apZX P d e sz ⟨t,r⟩ m J lx)):=(rfl)
theorem Jnv {m:Int} {zs:List PV}:apZX P d e sz ⟨t,r⟩ m J (.p .snil) zs=(zs.length=sz∧Ux (Hu P e) m.toNat∧m≤9223372036854775807∧J ((St.newReg d (.row e sz []) ⟨t,r⟩).put (some d) (.own d 0 m.toNat))):=(rfl)
theorem Jl3 {m:Int} {d0:Nat} {zs:List PV}:apZX P d e sz ⟨t,r⟩ m J (.own d0 0 n) zs=(sz=1∧zs.length=1∧apZR P d e sz ⟨t,r⟩ m J n zs (Bh d0 r)):=(rfl)
theorem Jmu {m:Int} {zs:List PV} {sz':Nat} {ls:List (List L)}:apZR P d e sz ⟨t,r⟩ m J n zs (some (.lrow T sz' true ls))=(T=e∧sz'=sz∧Px P d e sz ⟨t,r⟩ n ls (List.replicate m.toNat zs) J):=(rfl)
theorem Zx {t1 t2:TypeId} {lx:L}:apT P t1 t2 d (some (e,sz)) ⟨t,r⟩ lx (.p (.str x)) J=(zok (Ik P e) sz∧Ht (Q7 P t1 t2 e ⟨t,r⟩ (.p (.str x))) (apX P (t1=t2) d e sz ⟨t,r⟩ lx J)):=(rfl)
theorem Pr {t1 t2:TypeId} {lx:L}:apT P t1 t2 d (some (e,sz)) ⟨t,r⟩ lx (.p (.sl es)) J=(zok (Ik P e) sz∧Ht (Q7 P t1 t2 e ⟨t,r⟩ (.p (.sl es))) (apX P (t1=t2) d e sz ⟨t,r⟩ lx J)):=(rfl)
theorem G3 {t1 t2:TypeId} {lx:L} {d0 o m:Nat}:apT P t1 t2 d (some (e,sz)) ⟨t,r⟩ lx (.own d0 o m) J=(zok (Ik P e) sz∧Ht (Q7 P t1 t2 e ⟨t,r⟩ (.own d0 o m)) (apX P (t1=t2) d e sz ⟨t,r⟩ lx J)):=(rfl)
def strSrc (o1 o2:Option TypeDesc) (b:Option Nat) (z:Option PV) (bs:List UInt8):Option (List (List PV)) :=
 match o1,o2,b,z with
 | some .string,some (.int .u8),some 1,some (.int .u8 0)=>some (bs.map fun c=>[.int .u8 c.toNat])
 | _,_,_,_=>none
theorem Tn {t1 t2:TypeId}:Q7 P t1 t2 e ⟨t,r⟩ (.p (.str x))=strSrc (P.underlying t2) (P.underlying e) (Hu P e) (O2 P e) x:=(rfl)
theorem Jcp:strSrc (some .string) (some (.int .u8)) (some 1) (some (.int .u8 0)) x=some (x.map fun c=>[.int .u8 c.toNat]):=(rfl)
theorem Lu {t1 t2:TypeId}:Q7 P t1 t2 e ⟨t,r⟩ (.p (.sl es))=if t1=t2 then some es else none:=(rfl)
theorem E7 {t1 t2:TypeId} {o m:Nat}:Q7 P t1 t2 e ⟨t,r⟩ (.own d o m)=if t1=t2 then Q5 ⟨t,r⟩ (.own d o m) else none:=(rfl)
theorem Gb {tt:Prop} {d0:Nat}:apX P tt d e sz ⟨t,r⟩ (.own d0 0 n) J es=((∀ q∈es,q.length=sz)∧apR P tt (Hu P e) d e sz ⟨t,r⟩ d0 n J es (Bh d0 r)):=by
 unfold apX apR Ux
 rfl
theorem Qq {tt:Prop}:apX P tt d e sz ⟨t,r⟩ (.p .snil) J es=((∀ q∈es,q.length=sz)∧Ux (Hu P e) es.length∧es.length≤9223372036854775807∧J ((St.newReg d (.row e sz es) ⟨t,r⟩).put (some d) (.own d 0 es.length))):=(rfl)
theorem Km {tt:Prop} {bb:Option Nat} {es':List (List PV)} {d0 sz':Nat}:apR P tt bb d e sz ⟨t,r⟩ d0 n J es' (some (.row T sz' es))=(T=e∧sz'=sz∧es.length=n∧Ux bb (n+es'.length)∧n+es'.length≤9223372036854775807 ∧
     J ((St.newReg d (.row e sz (es ++ es')) (St.forget d0 ⟨t,r⟩)).put (some d) (.own d 0 (n+es'.length)))):=(rfl)
def apG (bb:Option Nat) (d e sz:Nat) (s:St) (n:Nat) (es':List (List PV)) (J:St→Prop) (ps:List (List PV)):Prop :=
 Ux bb (n+es'.length)∧n+es'.length≤9223372036854775807∧J ((s.newReg d (.row e sz (ps ++ es'))).put (some d) (.own d 0 (n+es'.length)))
theorem u_apG {es':List (List PV)} {ls:List (List L)}:Px P d e sz ⟨t,r⟩ n ls es' J=(n≤ls.length∧0<ls.length∧ls.length<n+es'.length∧Ht (J0 (ls.take n)) (apG (Hu P e) d e sz ⟨t,r⟩ n es' J)):=by
 unfold Px Ht apG Ux;rfl
theorem Jlx {bb:Option Nat} {es' ps:List (List PV)}:apG bb d e sz ⟨t,r⟩ n es' J ps=(Ux bb (n+es'.length)∧n+es'.length≤9223372036854775807∧J ((St.newReg d (.row e sz (ps ++ es')) ⟨t,r⟩).put (some d) (.own d 0 (n+es'.length)))):=(rfl)
def cpD (s:St) (d off:Nat) (es':List (List PV)) (C:St→L→Prop):Option Reg→Prop
 | some (.row T sz' es)=>sz'=1∧off+es'.length≤es.length∧C { s with regs:=H6 d (.row T 1 (es.take off ++ es' ++ es.drop (off+es'.length))) s.regs } (.p (.int .i64 (es'.length:Nat)))
 | some (.lrow T sz' f es)=>sz'=1∧off+es'.length≤es.length∧C { s with regs:=H6 d (.lrow T 1 f (es.take off ++ es'.map (List.map L.p) ++ es.drop (off+es'.length))) s.regs } (.p (.int .i64 (es'.length:Nat)))
 | _=>False
def cpY (s:St) (d off:Nat) (ly:L) (C:St→L→Prop) (es':List (List PV)):Prop :=
 (∀ q∈es',q.length=1)∧Zb s ly∧if es'.length=0 then C s (.p (.int .i64 0)) else cpD s d off es' C (Bh d s.regs)
def cpX (s:St) (lx ly:L) (C:St→L→Prop):Prop :=
 match lx with
 | .own d off len=>Ht (srcM s len ly) (cpY s d off ly C)
 | _=>False
def cpT (P:Program) (t1 t2:TypeId) (s:St) (lx ly:L) (C:St→L→Prop) (o:Option (TypeId×Nat)):Prop :=
 match o with
 | some (_,sz)=>sz=1∧t1=t2∧cpX s lx ly C
 | none=>False
theorem W6 {t1 t2:TypeId} {o q:Operand} {C:St→L→Prop}:Jfi P t1 t2 ⟨t,r⟩ o q C=cpT P t1 t2 ⟨t,r⟩ ((St.mk t r).get o) ((St.mk t r).get q) C (slE P t1):=by
 unfold Jfi cpT cpX Ht cpY
 cases slE P t1 with
 | none=>rfl
 | some p =>
  obtain ⟨e,sz⟩:=p
  rfl
theorem Jdd {t1 t2:TypeId} {lx ly:L} {C:St→L→Prop}:cpT P t1 t2 ⟨t,r⟩ lx ly C (some (e,sz))=(sz=1∧t1=t2∧cpX ⟨t,r⟩ lx ly C):=(rfl)
theorem Jb8 {off len:Nat} {ly:L} {C:St→L→Prop}:cpX ⟨t,r⟩ (.own d off len) ly C=Ht (srcM ⟨t,r⟩ len ly) (cpY ⟨t,r⟩ d off ly C):=(rfl)
theorem Jef {off:Nat} {ly:L} {es':List (List PV)} {C:St→L→Prop}:cpY ⟨t,r⟩ d off ly C es'=((∀ q∈es',q.length=1)∧Zb ⟨t,r⟩ ly∧if es'.length=0 then C ⟨t,r⟩ (.p (.int .i64 0)) else cpD ⟨t,r⟩ d off es' C (Bh d r)):=(rfl)
theorem Jjc {off sz':Nat} {es':List (List PV)} {C:St→L→Prop}:cpD ⟨t,r⟩ d off es' C (some (.row T sz' es))=(sz'=1∧off+es'.length≤es.length∧C ⟨t,H6 d (.row T 1 (es.take off ++ es' ++ es.drop (off+es'.length))) r⟩ (.p (.int .i64 (es'.length:Nat)))):=(rfl)
theorem Jmf {off sz':Nat} {f:Bool} {ls:List (List L)} {es':List (List PV)} {C:St→L→Prop}:cpD ⟨t,r⟩ d off es' C (some (.lrow T sz' f ls))=(sz'=1∧off+es'.length≤ls.length∧C ⟨t,H6 d (.lrow T 1 f (ls.take off ++ es'.map (List.map L.p) ++ ls.drop (off+es'.length))) r⟩ (.p (.int .i64 (es'.length:Nat)))):=(rfl)
def srcMR (s:St) (m d off len:Nat):Option Reg→Option (List (List PV))
 | some (.lrow _ _ _ es)=>if off+len≤es.length then J0 ((es.drop off).take (min len m)) else none
 | _=>(Q5 s (.own d off len)).map (List.take m)
theorem N8 {m o n:Nat}:srcM ⟨t,r⟩ m (.own d o n)=srcMR ⟨t,r⟩ m d o n (Bh d r):=(rfl)
theorem Si {m o n sz':Nat} {f:Bool} {ls:List (List L)}:srcMR ⟨t,r⟩ m d o n (some (.lrow T sz' f ls))=if o+n≤ls.length then J0 ((ls.drop o).take (min n m)) else none:=(rfl)
def takeO (m:Nat) (o:Option (List (List PV))):Option (List (List PV)):=o.map (List.take m)
theorem Ye {m:Nat}:takeO m (some es)=some (es.take m):=(rfl)
theorem Ss {m o n sz':Nat}:srcMR ⟨t,r⟩ m d o n (some (.row T sz' es))=takeO m (Q5 ⟨t,r⟩ (.own d o n)):=(rfl)
def oneO:Option (List (List PV))→Prop
 | some es=>∀ e∈es,e.length=1
 | none=>True
theorem Q6 {l:L}:Zb ⟨t,r⟩ l=oneO (Q5 ⟨t,r⟩ l):=by
 unfold Zb oneO
 split <;> simp_all
theorem Jdb:oneO (some es) = ∀ e∈es,e.length=1:=(rfl)
theorem Jcb:oneO none=True:=(rfl)
def srcR (off len:Nat):Option Reg→Option (List (List PV))
 | some (.row _ _ es)=>if off+len≤es.length then some ((es.drop off).take len) else none
 | _=>none
theorem F6 {o m:Nat}:Q5 ⟨t,r⟩ (.own d o m)=srcR o m (Bh d r):=by
 unfold Q5 srcR
 simp only
 cases Bh d r with
 | none=>rfl
 | some g=>cases g <;> rfl
theorem Ua {o m sz':Nat} {f:Bool} {ls:List (List L)}:srcR o m (some (.lrow T sz' f ls))=none:=(rfl)
theorem Jb {o m:Nat}:srcR o m (some (.row T sz es))=if o+m≤es.length then some ((es.drop o).take m) else none:=(rfl)
theorem Bt {C:PV→Prop} {v:PV}:Jdj C (.p v)=C v:=(rfl)
def kr2 (C:List PV→Prop) (x:PV) (xs:List PV):Prop:=C (x :: xs)
def kr1 (P:Program) (s:St) (l:List ResultVar) (C:List PV→Prop) (x:PV):Prop:=Sy P s l (kr2 C x)
theorem Cy {C:List PV→Prop} {v:PV}:kr2 C v cs=C (v :: cs):=(rfl)
theorem Cz {C:List PV→Prop} {v:PV} {l:List ResultVar}:kr1 P ⟨t,r⟩ l C v=Sy P ⟨t,r⟩ l (kr2 C v):=(rfl)
theorem A7 {C:List PV→Prop}:Sy P ⟨t,r⟩ [] C=C []:=(rfl)
theorem A8 {C:List PV→Prop} {l:List ResultVar}:Sy P ⟨t,r⟩ (.tmp i :: l) C=Jdj (kr1 P ⟨t,r⟩ l C) (t.getD i .junk):=(rfl)
theorem L0 {C:List PV→Prop} {l:List ResultVar}:Sy P ⟨t,r⟩ (.cell i T :: l) C=T5 P r T (t.getD i .junk) (Jdj (kr1 P ⟨t,r⟩ l C)):=(rfl)
theorem B9 {keys:List Nat} {Post:L→Regs→Prop}:kres keys Post r cs=Post (Jd3 cs) (Kp (900 :: keys) r):=(rfl)
theorem Jx {keys:List Nat} {Post:L→Regs→Prop} {l:L}:Jni keys Post r l=Post l (Kp (900 :: keys) r):=(rfl)
theorem Aw:Kp [] r=[]:=(rfl)
def Jnq (d:Nat) (rest:Regs):Option Reg→Regs
 | some q=>(d,q) :: rest
 | none=>rest
theorem Ao {ids:List Nat}:Kp (d :: ids) r=Jnq d (Kp ids r) (Bh d r):=by
 simp only [Kp,Jnq];cases Bh d r <;> rfl
theorem D2 {rest:Regs} {q:Reg}:Jnq d rest (some q)=(d,q) :: rest:=(rfl)
theorem Al {rest:Regs}:Jnq d rest none=rest:=(rfl)
def lret3 (P:Program) (rvs:List ResultVar) (keys:List Nat) (Post:L→Regs→Prop) (s:St):Prop:=Sy P s rvs (kres keys Post s.regs)
theorem B5 {rvs:List ResultVar} {keys:List Nat} {Post:L→Regs→Prop}:Jaz P false rvs keys Post ⟨t,r⟩=lret3 P rvs keys Post (St.freezeOps ⟨t,r⟩ (Rf rvs)):=(rfl)
theorem K6 {rvs:List ResultVar} {keys:List Nat} {Post:L→Regs→Prop}:Jaz P true rvs keys Post ⟨t,r⟩=Jn7 P rvs keys Post ⟨t,r⟩:=(rfl)
theorem Hl {keys:List Nat} {Post:L→Regs→Prop}:Jn7 P [.tmp i] keys Post ⟨t,r⟩=Jni keys Post r (t.getD i .junk):=(rfl)
theorem B6 {rvs:List ResultVar} {keys:List Nat} {Post:L→Regs→Prop}:lret3 P rvs keys Post ⟨t,r⟩=Sy P ⟨t,r⟩ rvs (kres keys Post r):=(rfl)
theorem Af:Ms [] ⟨t,r⟩=⟨t,r⟩:=(rfl)
theorem Ct {a b:Nat} {l:List (Nat×Nat)}:Ms ((a,b) :: l) ⟨t,r⟩=Ms l (Jjv a b ⟨t,r⟩):=(rfl)
def renB (a b:Nat) (s:St):Bool→St
 | true=>s.ren a b
 | false=>s
theorem F3 {a b:Nat}:Jjv a b ⟨t,r⟩=renB a b ⟨t,r⟩ (findKey a r):=by
 simp only [Jjv,renB];cases findKey a r <;> rfl
theorem Ma {a b:Nat}:renB a b ⟨t,r⟩ false=⟨t,r⟩:=(rfl)
theorem Fa {a b:Nat}:renB a b ⟨t,r⟩ true=⟨t.map (L.map (O3 a b)),N5 a b r⟩:=(rfl)
theorem Dx {a b:Nat}:N5 a b []=[]:=(rfl)
def renF (a b:Nat) (q:Reg) (rest:Regs):Option Nat→Regs
 | some n=>(n,q.map (O3 a b)) :: rest
 | none=>rest
theorem C9 {a b e:Nat} {q:Reg}:N5 a b ((e,q) :: r)=renF a b q (N5 a b r) (O3 a b e):=by
 simp only [N5,renF];cases O3 a b e <;> rfl
theorem C8 {a b e:Nat} {q:Reg} {rest:Regs}:renF a b q rest (some e)=(e,q.map (O3 a b)) :: rest:=(rfl)
theorem Am:Rf []=[]:=(rfl)
theorem Ap {l:List ResultVar}:Rf (.tmp i :: l)=.tmp i :: Rf l:=(rfl)
theorem J1 {l:List ResultVar}:Rf (.cell i T :: l)=Rf l:=(rfl)
theorem Cl {v:PV}:Jd3 [v]=.p v:=(rfl)
theorem Jbw:Jd3 []=.tup []:=(rfl)
theorem De {v w:PV}:Jd3 (v :: w :: cs)=.tup (v :: w :: cs):=(rfl)
variable {q:Reg}
theorem A1:Bh d []=none:=(rfl)
theorem Ar:Bh d ((i,q) :: r)=if i=d then some q else Bh d r:=(rfl)
theorem B1:Kz d []=[]:=(rfl)
theorem Cw:Kz d ((i,q) :: r)=if i=d then Kz d r else (i,q.forget d) :: Kz d r:=(rfl)
theorem Cu {q':Reg}:H6 d q ((i,q') :: r)=if i=d then (i,q) :: r else (i,q') :: H6 d q r:=(rfl)
variable {z:Fz}
theorem D8:Kf d z []=[]:=(rfl)
theorem Dv:Kf d z ((i,q) :: r)=if i=d then Kf d z r else (i,q.freeze d z) :: Kf d z r:=(rfl)
theorem Hw:Reg.forget d (.var T ls)=.var T (ls.map (L.forget d)):=(rfl)
theorem Fv:Reg.forget d (.row T sz es)=.row T sz es:=(rfl)
theorem Jjd {o:PObj}:Reg.forget d (.obj o)=.obj o:=(rfl)
theorem Y1 {fu:Bool} {ll:List (List L)}:Reg.forget d (.lrow T sz fu ll)=.lrow T sz fu (ll.map fun e=>e.map (L.forget d)):=(rfl)
theorem Kt:Reg.freeze d z (.var T ls)=.var T (ls.map (L.freeze d z)):=(rfl)
theorem Nj {es':List (List PV)}:Reg.freeze d z (.row T sz es')=.row T sz es':=(rfl)
theorem Jjr {o:PObj}:Reg.freeze d z (.obj o)=.obj o:=(rfl)
theorem E6 {v:PV}:L.forget d (.p v)=.p v:=(rfl)
theorem G2:L.forget d .junk=.junk:=(rfl)
theorem Ky {xs:List PV}:L.forget d (.tup xs)=.tup xs:=(rfl)
theorem I5:L.forget d (.eptr cs)=.eptr cs:=(rfl)
theorem H3 {e:Nat}:L.forget d (.ptr e i j)=if e=d then .junk else .ptr e i j:=by simp [L.forget,L.mentions]
theorem F5 {e:Nat} {o m:Nat}:L.forget d (.own e o m)=if e=d then .junk else .own e o m:=by simp [L.forget,L.mentions]
theorem Jjk {e:Nat}:L.forget d (.mref e)=if e=d then .junk else .mref e:=by simp [L.forget,L.mentions]
theorem Jgw {g:FuncId} {ids:List Nat}:L.forget d (.fn g ids)=if ids.contains d=true then .junk else .fn g ids:=(rfl)
theorem Jg {v:PV}:L.freeze d z (.p v)=.p v:=(rfl)
theorem S0:L.freeze d z .junk=.junk:=(rfl)
theorem J8 {xs:List PV}:L.freeze d z (.tup xs)=.tup xs:=(rfl)
theorem Oy:L.freeze d z (.eptr cs)=.eptr cs:=(rfl)
theorem Joh {l:Nat}:L.freeze d z (.yld l)=.yld l:=(rfl)
theorem Kb {e:Nat}:L.freeze d z (.ptr e i j)=if e=d then .junk else .ptr e i j:=(rfl)
theorem Hy {e o m:Nat}:L.freeze d (.rw es) (.own e o m)=if e=d then (if o+m≤es.length then .p (.sl ((es.drop o).take m)) else .junk) else .own e o m:=(rfl)
theorem Xg {e o m:Nat}:L.freeze d .gone (.own e o m)=if e=d then .junk else .own e o m:=(rfl)
theorem Jdv {e:Nat} {mm:List (PV×PV)}:L.freeze d (.mp mm) (.mref e)=if e=d then .p (.mp mm) else .mref e:=(rfl)
theorem Zk {g:FuncId} {ids:List Nat}:L.freeze d z (.fn g ids)=if ids.contains d=true then .junk else .fn g ids:=(rfl)
theorem Hg:Reg.ids (.var T ls)=ls.flatMap L.ids:=(rfl)
theorem Iw:Reg.ids (.row T sz es)=[]:=(rfl)
theorem Cj {v:PV}:L.ids (.p v)=[]:=(rfl)
theorem Ie:L.ids (.ptr d i j)=[d]:=(rfl)
theorem Jr {o m:Nat}:L.ids (.own d o m)=[d]:=(rfl)
theorem Jh0 {g:FuncId} {ids:List Nat}:L.ids (.fn g ids)=ids:=(rfl)
theorem Ds {α γ:Type} {f:α→Option γ}:F7 f []=some []:=(rfl)
def consO {γ:Type} (o:Option γ) (os:Option (List γ)):Option (List γ) :=
 match o with
 | some b=>match os with
  | some bs=>some (b :: bs)
  | none=>none
 | none=>none
theorem Fl {γ:Type} {b:γ} {bs:List γ}:consO (some b) (some bs)=some (b :: bs):=(rfl)
theorem Db {α γ:Type} {f:α→Option γ} {a:α} {l:List α}:F7 f (a :: l)=consO (f a) (F7 f l):=(rfl)
theorem Hf {v:PV}:L.pure? (.p v)=some v:=(rfl)
end
end Go.LX
namespace Go.LX
open Go Go.RowKit Go.Proofs
theorem iteI {c:Prop} [Decidable c] {A B:Prop} (h1:c→A) (h2:¬ c→B):if c then A else B:=by
 by_cases h:c
 ·rw [if_pos h];exact h1 h
 ·rw [if_neg h];exact h2 h
theorem Aj {l:List UInt8}:(l=[])=(l.length=0):=by simp
theorem B2 {α:Type} {l:List α} {i:Nat} {Q:α→Prop} (h:i<l.length) (hq:∀ a,l[i]? = some a→Q a):∃ a,l[i]? = some a∧Q a:=⟨l[i],List.getElem?_eq_getElem h,hq _ (List.getElem?_eq_getElem h)⟩
def kl2 {ι κ:Type} (I:ι→St) (Pre:ι→Prop) (μ:ι→Nat) (x:ι) (id:Nat) (J:κ→St) (PE:κ→Prop) (Q:Ex→St→Prop):Ex→St→Prop
 | .normal,s=>∃ y,Pre y∧μ y<μ x∧s.Le (I y)
 | .exit id',s=>if id'=id then ∃ y,PE y∧s.Le (J y) else Q (.exit id') s
 | .ret,s=>Q .ret s
def kun (A:St→Prop) (Q:Ex→St→Prop):Ex→St→Prop
 | .normal,s=>A s
 | .exit id,s=>Q (.exit id) s
 | .ret,s=>Q .ret s
def rounds (X:Cx) (ro:Option Nat) (c:Code) (Q:Ex→St→Prop):Nat→St→Prop
 | 0,_=>False
 | n+1,s=>SWP X ro c (kun (rounds X ro c Q n) Q) s
theorem Jkz {A:St→Prop} {Q:Ex→St→Prop} {t:List L} {r:Regs}:kun A Q .normal ⟨t,r⟩=A ⟨t,r⟩:=(rfl)
theorem Jj0 {A:St→Prop} {Q:Ex→St→Prop} {t:List L} {r:Regs} {id:Nat}:kun A Q (.exit id) ⟨t,r⟩=Q (.exit id) ⟨t,r⟩:=(rfl)
theorem Jn9 {A:St→Prop} {Q:Ex→St→Prop} {t:List L} {r:Regs}:kun A Q .ret ⟨t,r⟩=Q .ret ⟨t,r⟩:=(rfl)
theorem SWP.rounds {X:Cx} {ro:Option Nat} {c:Code} {Q:Ex→St→Prop} {s:St} (n:Nat) (h:rounds X ro c Q n s):SWP X ro (.loop c) Q s:=by
 intro Γ a w hG hr
 have key:∀ n s,LX.rounds X ro c Q n s→∀ a w,RR Γ s a w→∀ (b:Frame) (k:List Item) (cs:List Frame),b.roundOf=(F0 ro).round→(F0 ro).fn b.fn→(F0 ro).room (cs.length+1+1) →
   ∃ e a' w',QQ Γ Q e a' w'∧ArrivesIn (Machine.fenced X.P (F0 ro)) X.P (lone (b.atR a (.code c :: .inLoop c :: k)) cs w) b k cs e a' w':=by
  intro n
  induction n with
  | zero=>intro s h;exact h.elim
  | succ n ih =>
   intro s hs a w hr b k cs hro hb hroom
   obtain ⟨e,a₁,w₁,hq,harr⟩:=hs Γ a w hG hr b (.inLoop c :: k) cs hro hb hroom
   cases e with
   | normal =>
    obtain ⟨s',h1,h2⟩:=hq
    obtain ⟨e₂,a₂,w₂,hq₂,harr₂⟩:=ih s' h1 a₁ w₁ h2 b k cs hro hb hroom
    exact ⟨e₂,a₂,w₂,hq₂,.of_steps (StepsIn.trans harr (.one (fenced_calm hb hroom rfl) stepR_inLoop)) harr₂⟩
   | exit id =>
    obtain ⟨s',h1,h2⟩:=hq
    exact ⟨.exit id,a₁,w₁,⟨s',h1,h2⟩,.pass (x:=.inLoop c) rfl (fun _ _=>.inl (by simp)) harr⟩
   | ret =>
    obtain ⟨s',h1,h2⟩:=hq
    exact ⟨.ret,a₁,w₁,⟨s',h1,h2⟩,.pass (x:=.inLoop c) rfl (fun _ _=>.inl (by simp)) harr⟩
   | goto l=>exact hq.elim
   | panic ch=>exact hq.elim
   | outgrown=>exact hq.elim
 intro b k cs hro hb hroom
 obtain ⟨e,a',w',hq,harr⟩:=key n s h a w hr b k cs hro hb hroom
 exact ⟨e,a',w',hq,.of_steps (.one (fenced_calm hb hroom rfl) stepR_loop) harr⟩
end Go.LX
namespace Go.LX
open Go Go.RowKit Go.Proofs
theorem CallStep.of_below {β:Env} {w w':World} {Im:Nat→Prop} {args:List L} {rs:Regs} {tmps:Array Value} (hf:Fit β w Im ⟨args,rs⟩ tmps) (h:Below w.heap.size w w'):CallStep β w Im rs β w' Im rs :=
 {
  os:=h.os,tape:=h.tape,output:=h.output,size:=h.size,block:=fun k hk _=>h.block k hk,imin:=fun _ h=>h,imnew:=fun _ h=>.inl h,env:=fun _ _ _=>rfl,keys:=fun d r hd=>.inr ⟨r,hd⟩,regnew:=fun d r loc hd hl=>.inr ⟨d,r,loc,hd,hl,rfl⟩
  fit:=by
   have g:Grow w Im w' Im:=⟨h.os,h.tape,h.output,h.size,h.block,fun _ h=>h,fun _ h=>.inl h,fun b hb=>Nat.lt_of_lt_of_le (hf.im b hb) h.size⟩
   have:=hf.grow g
   exact { size:=rfl,tmps:=fun i l h=>by simp at h,regs:=this.regs,nodup:=this.nodup,live:=this.live,apart:=this.apart,im:=this.im } }
theorem Det.of_below {X:Cx} {f:FuncId} {args:List L} {rs:Regs} {l:L} {v:Value} (hent:Enters X.P f) (_:l.retOK=true) (hv:∀ β w Im,LRep β w Im v l)
  (h:∀ (β:Env) (Im:Nat→Prop) (w:World) (vs:List Value),X.G w Im→Fit β w Im ⟨args,rs⟩ ⟨vs⟩→Calls X.P f ⟨vs⟩ w fun e w'=>e=.returned v∧Below w.heap.size w w'):Det X f args rs l rs :=
 ⟨hent,fun β Im w vs hg hf=>(h β Im w vs hg hf).mono fun _ w' ⟨he,hb⟩=>⟨v,l,rs,β,Im,he,⟨rfl,rfl⟩,hv _ _ _,CallStep.of_below hf hb⟩⟩
theorem Det.of_belowE {X:Cx} {f:FuncId} {args:List L} {rs:Regs} {l:L} (hent:Enters X.P f)
  (h:∀ (β:Env) (Im:Nat→Prop) (w:World) (vs:List Value),X.G w Im→Fit β w Im ⟨args,rs⟩ ⟨vs⟩→Calls X.P f ⟨vs⟩ w fun e w'=>(∃ v,e=.returned v∧∀ β w Im,LRep β w Im v l)∧Below w.heap.size w w'):Det X f args rs l rs :=
 ⟨hent,fun β Im w vs hg hf=>(h β Im w vs hg hf).mono fun _ w' ⟨⟨v,he,hv⟩,hb⟩=>⟨v,l,rs,β,Im,he,⟨rfl,rfl⟩,hv _ _ _,CallStep.of_below hf hb⟩⟩
theorem rep_ifi {β:Env} {w:World} {Im:Nat→Prop} {v:Value} {t:TypeId} {k:IntKind} {n:Int} (h:LRep β w Im v (.p (.ifi t k n))):v=.iface t (.int k n):=by cases h;rfl
theorem fit1 {β:Env} {w:World} {Im:Nat→Prop} {a:L} {rs:Regs} {vs:List Value} (h:Fit β w Im ⟨[a],rs⟩ ⟨vs⟩):∃ v,vs=[v]∧LRep β w Im v a:=by
 have hs:=h.size
 match vs,hs with
 | [v],_=>exact ⟨v,rfl,h.tmps 0 a rfl⟩
theorem fit2 {β:Env} {w:World} {Im:Nat→Prop} {a b:L} {rs:Regs} {vs:List Value} (h:Fit β w Im ⟨[a,b],rs⟩ ⟨vs⟩):∃ v u,vs=[v,u]∧LRep β w Im v a∧LRep β w Im u b:=by
 have hs:=h.size
 match vs,hs with
 | [v,u],_=>exact ⟨v,u,rfl,h.tmps 0 a rfl,h.tmps 1 b rfl⟩
theorem Vt {β:Env} {w:World} {Im:Nat→Prop} {v:Value} {s:List UInt8} (h:LRep β w Im v (.p (.str s))):v=.string ⟨⟨s⟩⟩:=by cases h;rfl
theorem X1 {β:Env} {w:World} {Im:Nat→Prop} {v:Value} {k:IntKind} {n:Int} (h:LRep β w Im v (.p (.int k n))):v=.int k n:=by cases h;rfl
theorem Jrc {β:Env} {w:World} {Im:Nat→Prop} {v:Value} {b:Bool} (h:LRep β w Im v (.p (.bool b))):v=.bool b:=by cases h;rfl
theorem Det.calls_below {X:Cx} {f:FuncId} {args:List L} {l:L} (h:Det X f args [] l []) {w:World} {Im:Nat→Prop} (hg:X.G w Im) (hi:∀ b,Im b→b<w.heap.size) {vs:List Value} (hl:vs.length=args.length)
  (ha:∀ (i:Nat) (v:Value) (a:L),vs[i]? = some v→args[i]? = some a→LRep (fun _=>none) w Im v a) {v:Value} (hu:∀ β w' Im' u,LRep β w' Im' u l→u=v):Calls X.P f ⟨vs⟩ w fun e w'=>e=.returned v∧Below w.heap.size w w':=by
 refine (h.2 (fun _=>none) Im w vs hg ?_).mono fun e w' ⟨u,m,rs',β',Im',he,⟨hm,_⟩,hr,hc⟩=>?_
 ·exact {
      size:=by simpa using hl,tmps:=fun i a ha'=>by
       obtain ⟨u,hu'⟩:=getElem?_of_length hl ha'
       have e:(⟨vs⟩:Array Value).getD i undef=u:=by simp [Array.getD_eq_getD_getElem?,hu']
       rw [e];exact ha i u a hu' ha'
      regs:=fun d r h=>(by cases h),nodup:=.nil,live:=fun d r loc h=>(by cases h),apart:=fun d r d' r' l1 l2 h=>(by cases h),im:=hi }
 ·subst hm
  have:=hu _ _ _ _ hr
  subst this
  exact ⟨he,⟨hc.os,hc.tape,hc.output,hc.size,fun k hk=>hc.block k hk fun d r loc h=>(by cases h)⟩⟩
end Go.LX
namespace Go.LX
open Go Go.RowKit Go.Proofs
end Go.LX
namespace Go.LX
open Go Go.RowKit Go.Proofs
section
variable {X:Cx} {ro:Option Nat} {md:Region.Mode} {ops:Array Oper}
def ancB (md:Region.Mode) (ops:Array Oper):Nat→Nat→Nat→Bool
 | 0,_,_=>false
 | f+1,i,j=>match ops[j]? with
  | some o=>o.after.toList.any (fun e=>Region.binds md e && e.on == i) || o.after.toList.any (fun e=>Region.binds md e && ancB md ops f i e.on)
  | none=>false
def Jiz (md:Region.Mode) (ops:Array Oper) (k:Nat):Bool :=
 (List.range ops.size).all fun j=>decide (j<k) || (List.range j).all fun i=>ancB md ops ops.size i j
def Down (md:Region.Mode) (ops:Array Oper) (listed:Array Bool):Prop :=
 ∀ i o,ops[i]? = some o→listed.getD i false=true→∀ e∈o.after,Region.binds md e=true→listed.getD e.on false=true
theorem Jec {listed:Array Bool} (hd:Down md ops listed):∀ (f i j:Nat) (o:Oper),ops[j]? = some o→(∀ e∈o.after,Region.binds md e=true→listed.getD e.on false=true)→ancB md ops f i j=true→listed.getD i false=true
 | 0,_,_,_,_,_,h=>by cases h
 | f+1,i,j,o,ho,hall,h=>by
  simp only [ancB,ho,Bool.or_eq_true,List.any_eq_true,Bool.and_eq_true,beq_iff_eq] at h
  rcases h with ⟨e,he,hb,rfl⟩ | ⟨e,he,hb,ha⟩
  ·exact hall e (by simpa using he) hb
  ·have hl:=hall e (by simpa using he) hb
   cases hoe:ops[e.on]? with
   | none =>
    cases f with
    | zero=>cases ha
    | succ f=>simp [ancB,hoe] at ha
   | some oe=>exact Jec hd f i e.on oe hoe (fun e' he' hb'=>hd e.on oe hoe hl e' he' hb') ha
theorem R7 {listed:Array Bool} {j:Nat}:listed.getD j true=false ↔ j<listed.size∧listed.getD j false=false:=by
 simp only [Array.getD_eq_getD_getElem?]
 by_cases h:j<listed.size
 ·simp [h]
 ·simp [h]
theorem Down.set {listed:Array Bool} (hd:Down md ops listed) {i:Nat} (hi:i∈Region.ready md ops listed):Down md ops (listed.setIfInBounds i true):=by
 obtain ⟨h0,oi,hoi,hall⟩:=mem_ready.1 hi
 intro j o ho hl e he hb
 by_cases hji:j=i
 ·subst hji
  rw [hoi] at ho;cases ho
  exact getD_set_true (hall e he hb)
 ·have:listed.getD j false=true:=by
   rw [← hl]
   simp [Array.getD_eq_getD_getElem?,Array.getElem?_setIfInBounds_ne (Ne.symm hji)]
  exact getD_set_true (hd j o ho this e he hb)
theorem Jdc {k:Nat} (hT:Jiz md ops k=true) {listed:Array Bool} (hd:Down md ops listed) {j:Nat} (hj:j∈Region.ready md ops listed) (hk:k≤j):∀ i,i<j→listed.getD i false=true:=by
 obtain ⟨_,o,ho,hall⟩:=mem_ready.1 hj
 intro i hi
 simp only [Jiz,List.all_eq_true,List.mem_range,Bool.or_eq_true,decide_eq_true_eq] at hT
 have h1:=hT j (Array.getElem?_eq_some_iff.1 ho).1
 rcases h1 with h1 | h1
 ·omega
 ·exact Jec hd _ i j o ho hall (h1 i hi)
def Jge (X:Cx) (md:Region.Mode) (ops:Array Oper) (k:Nat) (K:St→Prop):Nat→Array Bool→St→Prop
 | 0,listed,s=>Region.ready md ops listed=[]∧K s
 | fuel+1,listed,s=>(Region.ready md ops listed=[]→K s) ∧
  ∀
   i∈Region.ready md ops listed,∀ o,ops[i]? = some o →
   (i<k→YS X (ops.toList.map (·.dst)) s o fun l=>Jge X md ops k K fuel (listed.setIfInBounds i true) (s.put o.dst l)) ∧
   (k≤i→∃ C:St→Prop,lAt X (ops.toList.map (·.dst)) ops.toList i C s∧∀ s',C s'→Jge X md ops k K fuel (listed.setIfInBounds i true) s')
theorem Q1 {Γ:Base} {k:Nat} {K:St→Prop} {Q:Exit→Act→World→Prop} {n:Nat} (hG:Γ.G=X.G) (hQ:∀ s a w,K s→RR Γ s a w→Q .normal a w):∀ (fuel:Nat) (listed:Array Bool) (s:St) (a:Act) (w:World),RR Γ s a w →
  Jge X md ops k K fuel listed s→wpAnyIn (F0 ro) n X.P md ops Q fuel listed a w
 | 0,_,s,a,w,h,hl=>⟨hl.1,hQ s a w hl.2 h⟩
 | fuel+1,_,s,a,w,h,hl=>⟨fun h0=>hQ s a w (hl.1 h0) h,fun i hi=>by
   obtain ⟨_,o,ho,_⟩:=mem_ready.1 hi
   by_cases hk:i<k
   ·exact Jjg ho hG h ((hl.2 i hi o ho).1 hk) fun l a' w' h1 h2=>Q1 hG hQ fuel _ _ a' w' h2 h1
   ·obtain ⟨C,hA,hC⟩:=(hl.2 i hi o ho).2 (by omega)
    exact wpOpIn_mono (fun a' w' ⟨s',hs,hr'⟩=>Q1 hG hQ fuel _ s' a' w' hr' (hC s' hs)) (Jfe hG h hA)⟩
theorem Jiu {k:Nat} (hT:Jiz md ops k=true) {K:St→Prop} {i:Nat} {oi:Oper} {v:L} (hi:ops[i]? = some oi) (hik:i<k):∀ (fuel:Nat) (listed:Array Bool) (s:St),Down md ops listed →
   (∀ j oj,ops[j]? = some oj→j≠i→listed.getD j true=false→(∀ e∈oj.after,Region.binds md e=true→e.on≠i)→oi.apart ops oj=true) →
   i∈Region.ready md ops listed→YS X (ops.toList.map (·.dst)) s oi (fun m=>m=v) →
   Jge X md ops k K fuel (listed.setIfInBounds i true) (s.put oi.dst v)→Jge X md ops k K (fuel+1) listed s:=by
 intro fuel
 induction fuel with
 | zero =>
  intro listed s hd _ hr hy H
  have only:∀ j∈Region.ready md ops listed,j=i:=by
   intro j hj
   by_cases hji:j=i
   ·exact hji
   ·have:=ready_mono hj hji
    rw [H.1] at this
    cases this
  refine ⟨fun h=>(by rw [h] at hr;cases hr),fun j hj oj hoj=>?_⟩
  have:=only j hj
  subst this
  rw [hi] at hoj;cases hoj
  exact ⟨fun _=>V2 (fun l hl=>by rw [hl];exact H) hy,fun h=>by omega⟩
 | succ fuel ih =>
  intro listed s hd hfree hr hy H
  refine ⟨fun h=>(by rw [h] at hr;cases hr),fun j hj oj hoj=>?_⟩
  by_cases hji:j=i
  ·subst hji;rw [hi] at hoj;cases hoj
   exact ⟨fun _=>V2 (fun l hl=>by rw [hl];exact H) hy,fun h=>by omega⟩
  ·have hjk:j<k:=by
    rcases Nat.lt_or_ge j k with h | h
    ·exact h
    ·exfalso
     have h1:=Jdc hT hd hj h i (by omega)
     have h2:=(R7.1 (mem_ready.1 hr).1).2
     rw [h1] at h2;cases h2
   refine ⟨fun _=>?_,fun h=>by omega⟩
   have h1:=(H.2 j (ready_mono hj hji) oj hoj).1 hjk
   obtain ⟨hjun,oj',hoj',hall⟩:=mem_ready.1 hj
   rw [hoj] at hoj';cases hoj'
   have hnot:∀ e∈oj.after,Region.binds md e=true→e.on≠i:=fun e he hb heq=>by
    have h1:=hall e he hb
    have h0:=(R7.1 (mem_ready.1 hr).1).2
    rw [heq] at h1
    rw [h1] at h0;cases h0
   obtain ⟨a1,a2,a3⟩:=Oper.apart_spec (hfree j oj hoj hji hjun hnot)
   have hfree':∀ q ok,ops[q]? = some ok→q≠i→(listed.setIfInBounds j true).getD q true=false →
     (∀ e∈ok.after,Region.binds md e=true→e.on≠i)→oi.apart ops ok=true:=fun q ok hk hki hun hno=>by
    refine hfree q ok hk hki ?_ hno
    by_cases hjk:j=q
    ·subst hjk;exact hjun
    ·rw [getD_set_ne true hjk] at hun;exact hun
   refine V2 (fun l hl=>?_) (Jir a1 h1)
   refine ih (listed.setIfInBounds j true) (s.put oj.dst l) (hd.set hj) hfree' (ready_mono hr (Ne.symm hji)) (Jh5 a3 hy) ?_
   rw [Array.setIfInBounds_comm _ _ hji]
   rw [← St.put_comm s v l a2]
   exact hl
def Xh (X:Cx) (ds:List (Option Tmp)) (all:List Oper) (K:St→Prop):Nat→Nat→List Oper→St→Prop
 | _,_,[],s=>K s
 | 0,i,_ :: rest,s=>lAt X ds all i (Xh X ds all K 0 (i+1) rest) s
 | k+1,i,o :: rest,s=>YS X ds s o fun l=>Xh X ds all K k (i+1) rest (s.put o.dst l)
def Upto (p:Nat) (listed:Array Bool):Prop:=∀ i,i<listed.size→listed.getD i false=decide (i<p)
theorem Z1 {k:Nat} (hT:Jiz md ops k=true) {K:St→Prop}:∀ (l:List Oper) (p q:Nat) (listed:Array Bool) (s:St),k - p=q→(∀ j,l[j]? = ops[p+j]?)→listed.size=ops.size→Down md ops listed→Upto p listed →
  Region.lexFrom md ops l.length p listed=true→Xh X (ops.toList.map (·.dst)) ops.toList K q p l s→Jge X md ops k K l.length listed s
 | [],_,_,_,_,_,_,_,_,_,hB,h=>⟨by simpa [Region.lexFrom] using hB,by simpa [Xh] using h⟩
 | o :: l,p,q,listed,s,hq,hl,hsz,hd,hup,hB,h=>by
  have h0:ops[p]? = some o:=by simpa using (hl 0).symm
  have hp:p<ops.size:=(Array.getElem?_eq_some_iff.1 h0).1
  simp only [List.length_cons,Region.lexFrom,Bool.and_eq_true] at hB
  obtain ⟨⟨hr,hf⟩,hB'⟩:=hB
  have hr':p∈Region.ready md ops listed:=by simpa using hr
  have hl':∀ j,l[j]? = ops[p+1+j]?:=fun j=>by have:=hl (j+1);simpa [Nat.add_assoc,Nat.add_comm 1 j] using this
  have hup':Upto (p+1) (listed.setIfInBounds p true):=by
   intro i hi
   simp only [Array.size_setIfInBounds] at hi
   by_cases hip:i=p
   ·subst hip
    simp [Array.getD_eq_getD_getElem?,hi]
   ·have:=hup i hi
    rw [show (listed.setIfInBounds p true).getD i false=listed.getD i false by simp [Array.getD_eq_getD_getElem?,Array.getElem?_setIfInBounds_ne (Ne.symm hip)],this]
    congr 1
    exact propext ⟨fun h=>by omega,fun h=>by omega⟩
  cases q with
  | succ q =>
   simp only [Xh] at h
   obtain ⟨v,hy,hK⟩:=Jkm (X:=X) h
   exact Jiu hT h0 (by omega) l.length listed s hd (Region.free_spec h0 hf) hr' hy
    (Z1 hT l (p+1) q _ _ (by omega) hl' (by simpa using hsz) (hd.set hr') hup' hB' hK)
  | zero =>
   simp only [Xh] at h
   have only:∀ j∈Region.ready md ops listed,j=p:=by
    intro j hj
    obtain ⟨hun,oj,hoj,_⟩:=mem_ready.1 hj
    obtain ⟨hjs,hjf⟩:=R7.1 hun
    have h1:=hup j hjs
    rw [hjf] at h1
    have hjp:¬ j<p:=by simpa using h1.symm
    rcases Nat.lt_or_ge p j with hlt | hge
    ·exfalso
     have h2:=Jdc hT hd hj (by omega) p hlt
     have h3:=hup p (by omega)
     rw [h2] at h3;simp at h3
    ·omega
   refine ⟨fun h'=>(by rw [h'] at hr';cases hr'),fun j hj oj hoj=>?_⟩
   have:=only j hj
   subst this
   refine ⟨fun hlt=>by omega,fun _=>?_⟩
   rw [h0] at hoj;cases hoj
   exact ⟨_,h,fun s' hs'=>Z1 hT l (j+1) 0 _ s' (by omega) hl' (by simpa using hsz) (hd.set hr') hup' hB' hs'⟩
theorem Qr {id:Nat} {Q:Ex→St→Prop} {s:St} (k:Nat) (hm:X.P.follows .mixedOrders=true) (hB:Region.lexB .any ops=true) (hT:Jiz .any ops k=true)
  (h:Xh X (ops.toList.map (·.dst)) ops.toList (Q .normal) k 0 ops.toList s):SWP X ro (.region id ops true) Q s:=fun Γ a w hG hr=>by
 simp only [Region.lexB,Bool.and_eq_true] at hB
 have h':RR Γ s a { w with drawn:=w.drawn+1 }:=by
  obtain ⟨ms,hdef,β,Im,hx⟩:=hr
  exact ⟨ms,hdef,β,Im,hx.grow (Grow.drew hx.fit.im)⟩
 refine wpIn_region_any hm (Q1 (k:=k) (K:=Q .normal) hG (fun s _ _ h1 h2=>⟨s,h1,h2⟩) _ _ s a _ h' ?_)
 have:=Z1 (X:=X) (K:=Q .normal) (md:=.any) hT ops.toList 0 k (Array.replicate ops.size false) s (by omega) (by simp) (by simp) ?_ ?_ (by simpa using hB.2) h
 ·simpa using this
 ·intro i o ho hl
  exfalso
  have hi:=(Array.getElem?_eq_some_iff.1 ho).1
  simp [Array.getD_eq_getD_getElem?,hi] at hl
 ·intro i hi
  simp only [Array.size_replicate] at hi
  simp [Array.getD_eq_getD_getElem?,hi]
end
end Go.LX
namespace Go.LX
open Go Go.RowKit Go.Proofs
section
variable {X:Cx} {ro:Option Nat} {K:St→Prop} {t:List L} {r:Regs} {ds:List (Option Tmp)} {all rest:List Oper} {dst:Option Tmp} {op:Op} {ty:TypeId} {ps:String} {af:Array Edge} {i k:Nat}
def Je9 (X:Cx) (ds:List (Option Tmp)) (all:List Oper) (K:St→Prop) (k i:Nat) (rest:List Oper):St→Prop:=Xh X ds all K k i rest
theorem S2 {k i:Nat} {l:List Oper}:Xh X ds all K k i l ⟨t,r⟩=Je9 X ds all K k i l ⟨t,r⟩:=(rfl)
theorem Jct:Je9 X ds all K k i [] ⟨t,r⟩=K ⟨t,r⟩:=by cases k <;> rfl
theorem S5 {o:Oper}:Je9 X ds all K 0 i (o :: rest) ⟨t,r⟩=lAt X ds all i (Je9 X ds all K 0 (i+1) rest) ⟨t,r⟩:=(rfl)
theorem Tm {o:Oper}:Je9 X ds all K (k+1) i (o :: rest) ⟨t,r⟩=YS X ds ⟨t,r⟩ o (kput o.dst (Je9 X ds all K k (i+1) rest) ⟨t,r⟩):=(rfl)
theorem Ww {C:L→Prop}:YS X ds ⟨t,r⟩ ⟨dst,op,ty,ps,af,none⟩ C=lqc X ⟨t,r⟩ ⟨dst,op,ty,ps,af,none⟩ C:=(rfl)
end
theorem SWP.roundI {X:Cx} {ro:Option Nat} {c:Code} {Q:Ex→St→Prop} {s:St} {n:Nat} (hm:X.P.follows .mixedOrders=true) (h:lwp X ro c (kun (LX.rounds X ro c Q n) Q) s):LX.rounds X ro c Q (n+1) s:=Ax hm _ _ _ h
end Go.LX
namespace Go.LX
open Go Go.RowKit Go.Proofs
structure YKeep (w:World) (Im:Nat→Prop) (w':World) (Im':Nat→Prop):Prop where
 os:w'.os=w.os
 tape:w'.tape=w.tape
 output:w'.output=w.output
 size:w.heap.size≤w'.heap.size
 im:∀ b,Im b→Im' b
 block:∀ b,Im b→w'.heap[b]? = w.heap[b]?
 lt:∀ b,Im' b→b<w'.heap.size
theorem YKeep.refl {w:World} {Im:Nat→Prop} (h:∀ b,Im b→b<w.heap.size):YKeep w Im w Im :=
 ⟨rfl,rfl,rfl,Nat.le_refl _,fun _ h=>h,fun _ _=>rfl,h⟩
theorem YKeep.trans {w w1 w2:World} {Im Im1 Im2:Nat→Prop} (h:YKeep w Im w1 Im1) (k:YKeep w1 Im1 w2 Im2):YKeep w Im w2 Im2 :=
 ⟨k.os.trans h.os,k.tape.trans h.tape,k.output.trans h.output,Nat.le_trans h.size k.size,fun b hb=>k.im b (h.im b hb),fun b hb=>(k.block b (h.im b hb)).trans (h.block b hb),k.lt⟩
theorem YKeep.keeps {w w':World} {Im Im':Nat→Prop} (h:YKeep w Im w' Im'):Keeps w Im w' Im':=⟨h.im,h.block⟩
theorem YKeep.of_grow {w w':World} {Im Im':Nat→Prop} (h:Grow w Im w' Im') (hi:∀ b,Im b→b<w.heap.size):YKeep w Im w' Im' :=
 ⟨h.os,h.tape,h.output,h.size,h.im,fun b hb=>h.block b (hi b hb),h.lt⟩
abbrev Gh:=Option Nat→World→(Nat→Prop)→Prop
def JOK (J:Gh):Prop:=∀ (k:Option Nat) (w:World) (Im:Nat→Prop) (w':World) (Im':Nat→Prop),(∀ b,Im b→b<w.heap.size)→J k w Im→Grow w Im w' Im'→J k w' Im'
def vsRep (w:World) (Im:Nat→Prop) (us:List Value) (x:List PV):Prop:=us.length=x.length∧∀ (i:Nat) (v:Value) (p:PV),us[i]? = some v→x[i]? = some p→PRep w Im v p
def YAt (X:Cx) (l:Nat) (args:Array Value) (w:World) (R:Ending→World→Prop):Prop :=
 ∃ fn tmps assign body,(Instr.yield l args).run X.P w=.ok (.round l fn tmps assign body) w∧RoundIn (F0 none) 0 X.P l fn tmps assign body w R
def YOK (X:Cx) (l:Nat) (J:Gh) (xs:List (List PV)):Prop:=∀ (k:Nat) (x:List PV),xs[k]? = some x→∀ (w:World) (Im:Nat→Prop) (us:List Value),J (some k) w Im→X.G w Im→(∀ b,Im b→b<w.heap.size)→vsRep w Im us x →
 YAt X l ⟨us⟩ w fun e w'=>∃ Im',YKeep w Im w' Im'∧((e=.returned (.bool true)∧J (some (k+1)) w' Im')∨(e=.returned (.bool false)∧J none w' Im'))
def Jf3 (X:Cx) (f:FuncId) (args:List L) (xs:List (List PV)):Prop :=
 Enters X.P f∧∀ (l:Nat) (J:Gh),JOK J→YOK X l J xs→∀ (Im:Nat→Prop) (w:World) (vs:List Value),X.G w Im→(∀ b,Im b→b<w.heap.size)→J (some 0) w Im →
  vs.length=args.length→(∀ (i:Nat) (v:Value) (a:L),vs[i]? = some v→args[i]? = some a→LRep (fun _=>none) w Im v a) →
  Calls X.P f ⟨.func (.yield l) #[] #[] :: vs⟩ w fun e w'=>∃ v Im',e=.returned v∧YKeep w Im w' Im'∧(J (some xs.length) w' Im'∨J none w' Im')
def St.bare (s:St):St:=⟨s.tmps.map (L.map fun _=>none),[]⟩
theorem RRx.bare {Γ:Base} {β:Env} {Im:Nat→Prop} {s:St} {tmps:Array Value} {w:World} (h:RRx Γ β Im s tmps w):RRx Γ β Im s.bare tmps w :=
 {
  h with
  fit:={
      size:=by simp [St.bare,h.fit.size],tmps:=fun i l hl=>by
       simp only [St.bare,List.getElem?_map] at hl
       obtain ⟨l',h1,rfl⟩:=Option.map_eq_some_iff.1 hl
       exact (h.fit.tmps i l' h1).map (fun d n hd=>by cases hd)
      regs:=fun d r hr=>by simp [St.bare] at hr
      nodup:=.nil,live:=fun d r loc hr=>by simp [St.bare] at hr,apart:=fun d r d' r' l1 l2 hr=>by simp [St.bare] at hr,im:=h.fit.im }
  regnew:=fun d r loc hr=>by simp [St.bare] at hr
  marks:=fun D hD=>by obtain ⟨h1,h2,h3,_⟩:=h.marks D hD;exact ⟨h1,h2,h3,fun d r loc hr=>by simp [St.bare] at hr⟩ }
def JR (X:Cx) (J:Gh) (w0:World) (Im00:Nat→Prop) (k:Option Nat) (s:St) (a:Act) (w:World):Prop :=
 a.defers=[]∧∃ (W:World) (β0:Env) (I0:Nat→Prop),(∀ b,I0 b→b<W.heap.size)∧YKeep w0 Im00 W I0∧J k W I0∧RRm ⟨W,β0,I0,fun _=>False,[],X.G,X.mono⟩ [] s a w
theorem RRx.grown {Γ:Base} {β:Env} {Im:Nat→Prop} {s:St} {tmps:Array Value} {w:World} (h:RRx Γ β Im s tmps w) (hm:∀ b,¬ Γ.may b):Grow Γ.W0 Γ.Im0 w Im :=
 ⟨h.os,h.tape,h.output,h.size,fun k hk=>h.block k hk (hm k),h.imin,fun b hb=>(h.imnew b hb).elim .inl fun h'=>h'.elim .inr fun h=>absurd h (hm b),h.fit.im⟩
def JQ (X:Cx) (J:Gh) (w0:World) (Im00:Nat→Prop) (Q:Ex→Option Nat→St→Prop):Exit→Act→World→Prop
 | .normal,a,w=>∃ k s,Q .normal k s∧JR X J w0 Im00 k s a w
 | .exit id,a,w=>∃ k s,Q (.exit id) k s∧JR X J w0 Im00 k s a w
 | .ret,a,w=>∃ k s,Q .ret k s∧JR X J w0 Im00 k s a w
 | _,_,_=>False
def JWP (X:Cx) (xs:List (List PV)) (l:Nat) (c:Code) (Q:Ex→Option Nat→St→Prop) (k:Option Nat) (s:St):Prop :=
 ∀ J w0 Im00,JOK J→YOK X l J xs→∀ a w,JR X J w0 Im00 k s a w→c.wpIn (F0 none) 1 X.P (JQ X J w0 Im00 Q) a w
def Wa:List L→Option (List PV)
 | []=>some []
 | .p x :: l=>match Wa l with
  | some xs=>some (x :: xs)
  | none=>none
 | _ :: _=>none
def Xx (xs:List (List PV)) (n:Nat) (o:Option (List PV)) (t f:Option Nat→Prop):Prop :=
 match o with
 | some x=>xs[n]? = some x∧t (some (n+1))∧f none
 | none=>False
def Jhp (xs:List (List PV)) (l l':Nat) (s:St) (args:List Operand) (dst:Option Tmp) (K:Option Nat→St→Prop) (k:Option Nat):Prop :=
 match k with
 | some n=>l'=l∧Xx xs n (Wa (args.map (s.freezeOps args).get)) (fun k=>K k ((s.freezeOps args).bare.put dst (.p (.bool true)))) (fun k=>K k ((s.freezeOps args).bare.put dst (.p (.bool false))))
 | none=>False
def Jku (X:Cx) (xs:List (List PV)) (l:Nat) (o:Oper) (args:List Operand) (K:Option Nat→St→Prop) (k:Option Nat) (s:St) (x:L):Prop :=
 match x with
 | .yld l'=>Jhp xs l l' s args o.dst K k
 | _=>lop X o (K k) s
def jop (X:Cx) (xs:List (List PV)) (l:Nat) (o:Oper) (K:Option Nat→St→Prop) (k:Option Nat) (s:St):Prop :=
 match o.op with
 | .call { callee:=.value f,args,argTypes:=_ }=>Jku X xs l o args.toList K k s (s.get f)
 | _=>lop X o (K k) s
def kunitJ (dst:Option Tmp) (K:Option Nat→St→Prop) (k:Option Nat) (s:St):Prop:=K k (s.put dst (.tup []))
def jops (X:Cx) (xs:List (List PV)) (l:Nat) (ds:List (Option Tmp)):List Oper→(Option Nat→St→Prop)→Option Nat→St→Prop
 | [],K,k,s=>K k s
 | o :: rest,K,k,s=>P5 ds o.guard (jop X xs l o (jops X xs l ds rest K) k) (kunitJ o.dst (jops X xs l ds rest K) k) s
def jseq (B:(Ex→Option Nat→St→Prop)→Option Nat→St→Prop) (Q:Ex→Option Nat→St→Prop):Ex→Option Nat→St→Prop
 | .normal,k,s=>B Q k s
 | .exit id,k,s=>Q (.exit id) k s
 | .ret,k,s=>Q .ret k s
def Y9 (id:Nat) (Q:Ex→Option Nat→St→Prop):Ex→Option Nat→St→Prop
 | .normal,k,s=>Q .normal k s
 | .exit id',k,s=>if id'=id then Q .normal k s else Q (.exit id') k s
 | .ret,k,s=>Q .ret k s
def jwp (X:Cx) (xs:List (List PV)) (l:Nat):Code→(Ex→Option Nat→St→Prop)→Option Nat→St→Prop
 | .skip,Q,k,s=>Q .normal k s
 | .region id ops draw,Q,k,s=>match draw with
  | false=>jops X xs l (ops.toList.map (·.dst)) ops.toList (Q .normal) k s
  | true=>JWP X xs l (.region id ops true) Q k s
 | .seq a b,Q,k,s=>jwp X xs l a (jseq (jwp X xs l b) Q) k s
 | .cond c a b,Q,k,s=>Jan (s.get c) (jwp X xs l a Q k) (jwp X xs l b Q k) s
 | .block id c,Q,k,s=>jwp X xs l c (Y9 id Q) k s
 | .loop c,Q,k,s=>JWP X xs l (.loop c) Q k s
 | .exit id,Q,k,s=>Q (.exit id) k s
 | .ret,Q,k,s=>Q .ret k s
 | .label _,Q,k,s=>Q .normal k s
 | c,Q,k,s=>JWP X xs l c Q k s
theorem Jeb:∀ {ls:List L} {x:List PV},Wa ls=some x→ls=x.map .p
 | [],x,h=>by cases h;rfl
 | .p y :: ls,x,h=>by
  simp only [Wa] at h
  split at h
  ·rename_i xs hx;cases h;rw [Jeb hx];rfl
  ·cases h
 | .ptr _ _ _ :: _,_,h=>by cases h
 | .own _ _ _ :: _,_,h=>by cases h
 | .eptr _ :: _,_,h=>by cases h
 | .fn _ _ :: _,_,h=>by cases h
 | .cfn _ _ :: _,_,h=>by cases h
 | .yld _ :: _,_,h=>by cases h
 | .tup _ :: _,_,h=>by cases h
 | .mref _ :: _,_,h=>by cases h
 | .junk :: _,_,h=>by cases h
section
variable {X:Cx} {xs:List (List PV)} {l:Nat} {J:Gh} {w0:World} {Im00:Nat→Prop}
theorem Jo3 {s:St} {a:Act} {w:World} {o:Oper} {K:Option Nat→St→Prop} {k:Option Nat} {Q:Exit→Act→World→Prop} (hJ:JOK J) (hY:YOK X l J xs) (h:JR X J w0 Im00 k s a w) (hl:jop X xs l o K k s) :
  o.wpIn (F0 none) 1 X.P a w (fun a' w'=>∃ k s,K k s∧JR X J w0 Im00 k s a' w') Q:=by
 obtain ⟨hd,W,β0,I0,hlt,hkeep,hj,hr⟩:=h
 have quiet:lop X o (K k) s→o.wpIn (F0 none) 1 X.P a w (fun a' w'=>∃ k s,K k s∧JR X J w0 Im00 k s a' w') Q:=fun hl=>by
  refine Oper.wpIn_mono (fun a' w' ⟨s',h1,h2⟩=>⟨k,s',h1,h2.1,W,β0,I0,hlt,hkeep,hj,h2⟩) (Wr (Γ:=⟨W,β0,I0,fun _=>False,[],X.G,X.mono⟩) rfl hr hl)
 unfold jop at hl
 split at hl
 ·rename_i f args ats ho
  unfold Jku at hl
  split at hl
  ·rename_i l' hf
   unfold Jhp at hl
   split at hl
   ·rename_i n
    obtain ⟨rfl,hl⟩:=hl
    obtain ⟨_,β,Im,hx⟩:=hr
    have hfv:=Dw hx.fit f
    rw [hf] at hfv
    obtain ⟨Im1,hx1⟩:=RRx.freezeOps args.toList hx
    unfold Xx at hl
    split at hl
    ·rename_i x hx0
     obtain ⟨hn,hK1,hK2⟩:=hl
     have hargs:=Jeb hx0
     have hG1:Grow W I0 w Im1:=hx1.grown (fun _ h=>h)
     have hrep:vsRep w Im1 (args.toList.map a.eval) x:=by
      have hlen:args.toList.length=x.length:=by have:=congrArg List.length hargs;simpa using this
      refine ⟨by simpa using hlen,fun i v p hv hp=>?_⟩
      rw [List.getElem?_map] at hv
      obtain ⟨o',ho',rfl⟩:=Option.map_eq_some_iff.1 hv
      have h2:=Dw hx1.fit o'
      have h3:(args.toList.map (s.freezeOps args.toList).get)[i]? = (x.map L.p)[i]?:=by rw [hargs]
      rw [List.getElem?_map,List.getElem?_map,ho',hp] at h3
      rw [Option.some.inj h3] at h2
      exact h2
     have hj1:J (some n) w Im1:=hJ _ _ _ _ _ hlt hj hG1
     obtain ⟨fn,tmps,assign,body,hy,hR⟩:=hY n x hn w Im1 _ hj1 hx1.glob hx1.fit.im hrep
     refine ⟨fun _ _=>trivial,?_⟩
     have hdn:∀ c,o.op≠.defer c:=by rw [ho];simp
     rw [W8 _ hdn]
     have hrun:(execOp a.eval o).run X.P w=.ok (.round l' fn tmps assign body) w:=by
      unfold execOp
      rw [ho]
      have he:a.eval f=.func (.yield l') #[] #[]:=hfv
      have hm:args.map a.eval=⟨args.toList.map a.eval⟩:=by rw [← Array.toList_inj];simp
      simp only [resolve,he,hm]
      simp [Deferred.ofValue,invoke,hy]
     rw [hrun]
     refine ⟨fun _=>Nat.le_refl _,hR.mono fun e w' ⟨Im',hk',hc⟩=>?_⟩
     have hb:=hx1.bare
     have back:∀ (k':Option Nat) (b:Bool),J k' w' Im'→JR X J w0 Im00 k' ((s.freezeOps args.toList).bare.put o.dst (.p (.bool b))) (a.put o.dst (.bool b)) w':=by
      intro k' b hjk
      refine ⟨Fu hd,w',β,Im',hk'.lt,hkeep.trans ((YKeep.of_grow hG1 hlt).trans hk'),hjk,Fu hd,β,Im',?_⟩
      refine RRx.put ?_ o.dst (PRep.bool b)
      refine {
          fit:={ size:=hb.fit.size,tmps:=fun i m hm=>(hb.fit.tmps i m hm).mono' hk'.keeps,regs:=fun d r hr=>(by simp [St.bare] at hr),nodup:=.nil,live:=fun d r loc hr=>(by simp [St.bare] at hr),apart:=fun d r d' r' l1 l2 hr=>(by simp [St.bare] at hr),im:=hk'.lt }
          os:=rfl,tape:=rfl,output:=rfl,size:=Nat.le_refl _,block:=fun _ _ _=>rfl,imin:=fun _ h=>h,imnew:=fun _ h=>.inl h,regnew:=fun d r loc hr=>(by simp [St.bare] at hr),fixed:=fun _ _ _=>rfl
          glob:=X.mono hk'.keeps hx1.glob,marks:=fun D hD=>(by cases hD),mnod:=.nil }
     rcases hc with ⟨rfl,hj2⟩ | ⟨rfl,hj2⟩
     ·exact ⟨_,_,hK1,back _ _ hj2⟩
     ·exact ⟨_,_,hK2,back _ _ hj2⟩
    ·exact hl.elim
   ·exact hl.elim
  ·exact quiet hl
 ·exact quiet hl
theorem Wm {ops:Array Oper} {K:Option Nat→St→Prop} {Q:Exit→Act→World→Prop} (hJ:JOK J) (hY:YOK X l J xs) (hQ:∀ k s a w,K k s→JR X J w0 Im00 k s a w→Q .normal a w):∀ (os:List Oper) (i:Nat),(∀ j,os[j]? = ops[i+j]?)→∀ (k:Option Nat) (s:St) (a:Act) (w:World),JR X J w0 Im00 k s a w →
  jops X xs l (ops.toList.map (·.dst)) os K k s→wpOpsIn (F0 none) 1 X.P ops Q (List.range' i os.length) a w
 | [],i,_,k,s,a,w,h,hl=>by simpa [wpOpsIn] using hQ k s a w hl h
 | o :: os,i,hi,k,s,a,w,h,hl=>by
  have h0:ops[i]? = some o:=by simpa using (hi 0).symm
  have hi':∀ j,os[j]? = ops[i+1+j]?:=fun j=>by have:=hi (j+1);simpa [Nat.add_assoc,Nat.add_comm 1 j] using this
  simp only [List.length_cons,List.range'_succ,wpOpsIn,h0]
  simp only [jops] at hl
  obtain ⟨hd,W,β0,I0,hlt,hkeep,hj,hr⟩:=h
  obtain ⟨s',h',hc⟩:=Qk hr.rr hl
  have hm:RRm ⟨W,β0,I0,fun _=>False,[],X.G,X.mono⟩ [] s' a w:=by
   obtain ⟨ms,h1,h2⟩:=h'
   have:ms=[]:=by rw [hd] at h1;cases ms <;> first | rfl | cases h1
   subst this
   exact ⟨h1,h2⟩
  rcases hc with ⟨hA,hw⟩ | ⟨hB,hw⟩
  ·rw [if_pos (hw o rfl)]
   exact Oper.wpIn_mono (fun a' w' ⟨k2,s2,hs2,hr2⟩=>Wm hJ hY hQ os (i+1) hi' k2 s2 a' w' hr2 hs2) (Jo3 hJ hY ⟨hd,W,β0,I0,hlt,hkeep,hj,hm⟩ hA)
  ·rw [if_neg (by rw [hw o rfl];simp)]
   obtain ⟨hdef,β,Im,hx⟩:=hm
   exact ⟨fun _ _=>trivial,Wm hJ hY hQ os (i+1) hi' k _ _ w ⟨Fu hd,W,β0,I0,hlt,hkeep,hj,Fu hd,β,Im,hx.put o.dst Sg⟩ hB⟩
theorem Yn:∀ (c:Code) (Q:Ex→Option Nat→St→Prop) (k:Option Nat) (s:St),jwp X xs l c Q k s→JWP X xs l c Q k s:=by
 intro c
 induction c with
 | skip=>exact fun Q k s h J w0 Im00 hJ hY a w hr=>wpIn_skip ⟨k,s,h,hr⟩
 | region id ops draw =>
  intro Q k s h
  cases draw with
  | false =>
   intro J w0 Im00 hJ hY a w hr
   simp only [jwp] at h
   refine wpIn_region ?_
   have:=Wm (X:=X) (ops:=ops) (K:=Q .normal) (Q:=JQ X J w0 Im00 Q) hJ hY (fun k s a w h1 h2=>⟨k,s,h1,h2⟩) ops.toList 0 (by simp) k s a w hr h
   rw [Array.length_toList] at this
   rw [List.range_eq_range']
   exact this
  | true=>exact h
 | seq x y ihx ihy =>
  intro Q k s h J w0 Im00 hJ hY a w hr
  simp only [jwp] at h
  refine wpIn_seq (wpIn_mono (ihx _ k s h J w0 Im00 hJ hY a w hr) fun e a w hq=>?_)
  cases e with
  | normal=>obtain ⟨k',s',h1,h2⟩:=hq;exact ihy Q k' s' h1 J w0 Im00 hJ hY a w h2
  | exit id=>exact hq
  | ret=>exact hq
  | goto l=>exact hq.elim
  | panic c=>exact hq.elim
  | outgrown=>exact hq.elim
 | cond c x y ihx ihy =>
  intro Q k s h J w0 Im00 hJ hY a w hr
  simp only [jwp,Jan] at h
  obtain ⟨hd,W,β0,I0,hlt,hkeep,hj,hdef,β,Im,hx⟩:=hr
  have hc:=Dw hx.fit c
  split at h
  ·rename_i t hg
   rw [hg] at hc
   cases hv:a.eval c <;> rw [hv] at hc <;> cases hc
   exact wpIn_cond_split hv (fun ht=>ihx Q k s (h.1 ht) J w0 Im00 hJ hY a w ⟨hd,W,β0,I0,hlt,hkeep,hj,hdef,β,Im,hx⟩) (fun ht=>ihy Q k s (h.2 ht) J w0 Im00 hJ hY a w ⟨hd,W,β0,I0,hlt,hkeep,hj,hdef,β,Im,hx⟩)
  ·exact h.elim
 | block id c ih =>
  intro Q k s h J w0 Im00 hJ hY a w hr
  simp only [jwp] at h
  refine wpIn_block (wpIn_mono (ih _ k s h J w0 Im00 hJ hY a w hr) fun e a w hq=>?_)
  cases e with
  | normal=>exact hq
  | exit id' =>
   obtain ⟨k',s',h1,h2⟩:=hq
   simp only [Y9] at h1
   simp only [Exit.inBlock]
   split at h1
   ·rename_i he;rw [if_pos he];exact ⟨k',s',h1,h2⟩
   ·rename_i he;rw [if_neg he];exact ⟨k',s',h1,h2⟩
  | ret=>exact hq
  | goto l=>exact hq.elim
  | panic c=>exact hq.elim
  | outgrown=>exact hq.elim
 | loop c _=>exact fun Q k s h=>h
 | exit id=>exact fun Q k s h J w0 Im00 hJ hY a w hr=>wpIn_exit ⟨k,s,h,hr⟩
 | ret=>exact fun Q k s h J w0 Im00 hJ hY a w hr=>wpIn_ret ⟨k,s,h,hr⟩
 | label l=>exact fun Q k s h J w0 Im00 hJ hY a w hr=>wpIn_label ⟨k,s,h,hr⟩
 | rangeFunc f ps asg c _ _=>exact fun Q k s h=>h
 | scope c ih=>exact fun Q k s h=>h
 | goto l=>exact fun Q k s h=>h
 | refuse why=>exact fun Q k s h=>h
def Jov {ι:Type} (I:ι→Option Nat×St) (Pre:ι→Prop) (μ:ι→Nat) (x:ι) (Q:Ex→Option Nat→St→Prop):Ex→Option Nat→St→Prop
 | .normal,k,s=>∃ y,Pre y∧μ y<μ x∧k=(I y).1∧s.Le (I y).2
 | .exit id,k,s=>Q (.exit id) k s
 | .ret,k,s=>Q .ret k s
theorem JR.le {k:Option Nat} {s s':St} {a:Act} {w:World} (h:JR X J w0 Im00 k s a w) (hle:s.Le s'):JR X J w0 Im00 k s' a w:=by
 obtain ⟨hd,W,β0,I0,hlt,hkeep,hj,hr⟩:=h
 obtain ⟨ms,h1,h2⟩:=hle _ _ _ hr.rr
 have:ms=[]:=by rw [hd] at h1;cases ms <;> first | rfl | cases h1
 subst this
 exact ⟨hd,W,β0,I0,hlt,hkeep,hj,h1,h2⟩
theorem JWP.loop {ι:Type} (I:ι→Option Nat×St) (Pre:ι→Prop) (μ:ι→Nat) (x0:ι) {c:Code} {Q:Ex→Option Nat→St→Prop} {k:Option Nat} {s:St} (hk:k=(I x0).1) (hs:s.Le (I x0).2) (h0:Pre x0)
  (round:∀ x,Pre x→JWP X xs l c (Jov I Pre μ x Q) (I x).1 (I x).2):JWP X xs l (.loop c) Q k s:=by
 intro J w0 Im00 hJ hY a w hr
 have key:∀ n x,μ x=n→Pre x→∀ a w,JR X J w0 Im00 (I x).1 (I x).2 a w→∀ (b:Frame) (k:List Item) (cs:List Frame),b.roundOf=(F0 none).round→(F0 none).fn b.fn→(F0 none).room (cs.length+1+1) →
   ∃ e a' w',JQ X J w0 Im00 Q e a' w'∧ArrivesIn (Machine.fenced X.P (F0 none)) X.P (lone (b.atR a (.code c :: .inLoop c :: k)) cs w) b k cs e a' w':=by
  intro n
  induction n using Nat.strongRecOn with
  | _ n ih =>
   intro x hn hP a w hr b k cs hro hb hroom
   obtain ⟨e,a₁,w₁,hq,harr⟩:=round x hP J w0 Im00 hJ hY a w hr b (.inLoop c :: k) cs hro hb hroom
   cases e with
   | normal =>
    obtain ⟨k',s',⟨y,hy,hlt,hk',hle⟩,h2⟩:=hq
    subst hk'
    obtain ⟨e₂,a₂,w₂,hq₂,harr₂⟩:=ih (μ y) (hn ▸ hlt) y rfl hy a₁ w₁ (h2.le hle) b k cs hro hb hroom
    exact ⟨e₂,a₂,w₂,hq₂,.of_steps (StepsIn.trans harr (.one (fenced_calm hb hroom rfl) stepR_inLoop)) harr₂⟩
   | exit id =>
    obtain ⟨k',s',h1,h2⟩:=hq
    exact ⟨.exit id,a₁,w₁,⟨k',s',h1,h2⟩,.pass (x:=.inLoop c) rfl (fun _ _=>.inl (by simp)) harr⟩
   | ret =>
    obtain ⟨k',s',h1,h2⟩:=hq
    exact ⟨.ret,a₁,w₁,⟨k',s',h1,h2⟩,.pass (x:=.inLoop c) rfl (fun _ _=>.inl (by simp)) harr⟩
   | goto l=>exact hq.elim
   | panic ch=>exact hq.elim
   | outgrown=>exact hq.elim
 intro b k' cs hro hb hroom
 subst hk
 obtain ⟨e,a',w',hq,harr⟩:=key _ x0 rfl h0 a w (hr.le hs) b k' cs hro hb hroom
 exact ⟨e,a',w',hq,.of_steps (.one (fenced_calm hb hroom rfl) stepR_loop) harr⟩
def jret (xs:List (List PV)):Ex→Option Nat→St→Prop
 | .normal,k,_=>k=some xs.length∨k=none
 | .ret,k,_=>k=some xs.length∨k=none
 | .exit _,_,_=>False
end
theorem Jf3.of_code {X:Cx} {f:FuncId} {fn:Func} {c:Code} {args:List L} {xs:List (List PV)} (hf:X.P.funcs[f]? = some fn) (hname:(fn.name == "runtime.NumGoroutine")=false) (hb:fn.body=some c) (hres:fn.results = #[]) (hn:args.length+1≤fn.ntmps)
  (h:∀ l,JWP X xs l c (jret xs) (some 0) ⟨Fo fn.ntmps (argW 0 (.yld l :: args)),[]⟩):Jf3 X f args xs:=by
 refine ⟨enters_of hf hname hb,fun l J hJ hY Im w vs hglob hlt hj hlen hrep=>?_⟩
 refine callsIn_wide.1 (callsIn_of_wp_marks (n:=1) (F:=Fence.wide) hf hb trivial ?_)
 have e0:Fo fn.ntmps (argW 0 (.yld l :: args))=(.yld l :: args) ++ List.replicate (fn.ntmps - (L.yld l :: args).length) .junk:=(Jcg (by simpa using hn)).symm
 have hr0:JR X J w Im (some 0) ⟨Fo fn.ntmps (argW 0 (.yld l :: args)),[]⟩ { tmps:=(⟨.func (.yield l) #[] #[] :: vs⟩:Array Value) ++ Array.replicate (fn.ntmps - (⟨.func (.yield l) #[] #[] :: vs⟩:Array Value).size) undef,defers:=[] } w:=by
  refine ⟨rfl,w,fun _=>none,Im,hlt,YKeep.refl hlt,hj,rfl,fun _=>none,Im,{ fit:={ size:=?_,tmps:=fun i m hm=>?_,regs:=fun d r hr=>by simp at hr,nodup:=.nil,live:=fun d r loc hr=>by simp at hr,apart:=fun d r d' r' l1 l2 hr=>by simp at hr,im:=hlt },os:=rfl,tape:=rfl,output:=rfl,size:=Nat.le_refl _,block:=fun _ _ _=>rfl,imin:=fun _ h=>h,imnew:=fun _ h=>.inl h,regnew:=fun d r loc hr=>by simp at hr,fixed:=fun _ _ _=>rfl,glob:=hglob,mnod:=.nil,marks:=fun D hD=>(by cases hD) }⟩
  ·simp [Jz,hlen];omega
  ·simp only [e0] at hm
   by_cases hi:i<(L.yld l :: args).length
   ·rw [List.getElem?_append_left hi] at hm
    have e:((⟨.func (.yield l) #[] #[] :: vs⟩:Array Value) ++ Array.replicate (fn.ntmps - (⟨.func (.yield l) #[] #[] :: vs⟩:Array Value).size) undef).getD i undef=(Value.func (.yield l) #[] #[] :: vs).getD i undef:=by
     simp only [Array.getD_eq_getD_getElem?,List.getD_eq_getElem?_getD]
     rw [Array.getElem?_append_left (by simp at hi ⊢;omega)]
     simp
    rw [e]
    cases i with
    | zero=>simp at hm;subst hm;rfl
    | succ i =>
     simp at hm hi
     have hv:i<vs.length:=by omega
     simp [hv]
     exact hrep i _ m (by simp [hv]) hm
   ·rw [List.getElem?_append_right (by omega),List.getElem?_replicate] at hm
    split at hm
    ·cases hm;trivial
    ·cases hm
 have hw:=h l J w Im hJ hY _ w hr0
 refine wpIn_mono (show c.wpIn Fence.wide 1 X.P _ _ _ from hw) fun e a w' hq=>?_
 have fin:∀ k s,(k=some xs.length∨k=none)→JR X J w Im k s a w'→LeavesInM Fence.wide 1 X.P fn a.tmps (fun e w'=>∃ v Im',e=.returned v∧YKeep w Im w' Im'∧(J (some xs.length) w' Im'∨J none w' Im')) a.defers .returning w':=by
  rintro k s hk ⟨hd,W,β0,I0,hlt',hkeep,hj',hr⟩
  rw [hd]
  obtain ⟨_,β,Im',hx⟩:=hr
  have hg:Grow W I0 w' Im':=hx.grown (fun _ h=>h)
  have hrun:=Rk (P:=X.P) (fn:=fn) (tmps:=a.tmps) (w:=w') (vs:=[]) (by rw [hres];simp)
  refine ⟨_,hrun,_,Im',rfl,hkeep.trans (YKeep.of_grow hg hlt'),?_⟩
  have:=hJ _ _ _ _ _ hlt' hj' hg
  rcases hk with rfl | rfl
  ·exact .inl this
  ·exact .inr this
 cases e with
 | normal=>obtain ⟨k,s,h1,h2⟩:=hq;exact fin k s h1 h2
 | ret=>obtain ⟨k,s,h1,h2⟩:=hq;exact fin k s h1 h2
 | exit id=>obtain ⟨k,s,h1,h2⟩:=hq;exact h1.elim
 | goto l=>exact hq.elim
 | panic c=>exact hq.elim
 | outgrown=>exact hq.elim
end Go.LX
