/- Paths: from the laws' contracts to the rows: slices of steps and of nodes among the arguments. -/
import Derived.Test.YtpdaccjebbbbaaaGreatDoorLxS
import Derived.Test.YtpdaccjebbbbaaaGreatDoorCards
import Derived.Test.YtpdaccjebbbbaaaGreatDoorTie
import Derived.Deep.DeepHandedRow
import Derived.Deep.DeepWitnessRowRef
import Derived.Deep.Slices
import Derived.Lib.LaidIn
import Derived.Lib.LaidU8T
import Derived.Lib.LaidTab
import Derived.SizedLaws
import Derived.Test.YtpdaccjebbbbaaaGreatDoorLxN
import Derived.Test.YtpdaccjebbbbaaaGreatDoorLxR
import Derived.Test.YtpdaccjebbbbaaaGreatDoorLxQ
import Derived.Test.YtpdaccjebbbbaaaGreatDoorLxL
import Derived.Shelf.Strings.FuncGrows
import Derived.Lib.TrimUEq
import Derived.Lib.TrimAscii
import Derived.Lib.ItoaNum
import Derived.Lib.Repeat
import Derived.Lib.Bytealg
set_option linter.unusedSimpArgs false
set_option linter.unusedVariables false
set_option linter.unusedSectionVars false
set_option linter.unnecessarySimpa false
set_option maxRecDepth 100000
namespace Go.LX
open Go Go.Proofs Go.RowKit Go.ChangeShapes Go.WideShapes Go.ChangeAt Go.Lib
open Go.Proofs.YtpdaccjebbbbaaaGreatDoor
theorem Mc {P:Program} {w:World} {x:String×DataW Unit} {l:List (String×DataW Unit)} (h:laidMet P (x :: l) w):laidMet P l w:=by
 obtain ⟨ps,h1,h2,h3⟩:=h;obtain ⟨n,d⟩:=x;obtain ⟨g,t,cs,fuel,p,q,_,_,_,_,h5,rfl⟩:=h1;exact ⟨q,h5,(List.nodup_append.1 h2).2.1,fun b off hb=>h3 b off (List.mem_append_right _ hb)⟩
theorem Jc3 (x:ByteArray):(⟨⟨x.data.toList⟩⟩:ByteArray)=x:=by rcases x with ⟨⟨l⟩⟩;rfl
theorem T8 (s:ByteArray):s.data.toList.length=s.size:=by simp
theorem Jci {P:Program} {w:World} {sp:Nat→Bool} {t:TypeId} {cs:List Value} {nm:String} {d:DataW Unit} {p:List MemPlace} {u:TypeDesc} (ht:P.underlying t=some u) (hu:∃ m,u=.interface m) :
  ∀ {fuel:Nat},DataW.trod (fun _=>()) P w 0 sp false fuel t cs=some (.iface nm d,p)→∃ te pe,cs=[.iface te pe]
 | 0,h=>by simp [DataW.trod] at h
 | fuel+1,h=>by
  obtain ⟨m,rfl⟩:=hu;rcases cs with _ | ⟨c,_ | ⟨c2,cs⟩⟩
  ·simp [DataW.trod,ht] at h
  ·cases c <;> first | exact ⟨_,_,rfl⟩ | (simp [DataW.trod,ht] at h;done)
  ·simp [DataW.trod,ht] at h
theorem Xq {w:World} {n:String} {nm:String} {d:DataW Unit} {g:Nat} {t:TypeId} {u:TypeDesc} (h:VarReads Tryz.prog w n (.iface nm d)) (hg:Tryz.prog.globalNamed n=some g) (ht:(Tryz.prog.globals[g]?).map (·.type)=some t) (hu:Tryz.prog.underlying t=some u) (hi:∃ m,u=.interface m):Jk8 g w:=by
 obtain ⟨g',t',cs,fuel,p,h1,h2,h3,h4⟩:=h;obtain rfl:=Option.some.inj (hg.symm.trans h1);obtain rfl:=Option.some.inj (ht.symm.trans h2);obtain ⟨te,pe,e⟩:=Jci hu hi h4;refine ⟨te,pe,?_⟩;rw [World.var?_cell hg h3 0,← Array.getElem?_toList,e];rfl
theorem gOwn:ownKnob Tryz.prog.godebug=none:=krf
theorem L2:laidOutB Tryz.prog=true:=krf
theorem gFirst:Go.Pinned.utf8First=firstData:=krf
theorem u8T:U8Types Tryz.prog Tryz_lays197_renX:=⟨by kernel_rfl,by kernel_rfl,by kernel_rfl,by kernel_rfl⟩
theorem u8X:U8Extra Tryz.prog Tryz_lays197_renX:=⟨by kernel_rfl,by kernel_rfl,by kernel_rfl,by kernel_rfl,by kernel_rfl,by kernel_rfl,by kernel_rfl⟩
def tz64:List Int:=Lib.deBruijn64tab.map fun n:Nat=>(n:Int)
theorem Kv {W:World} {n:String} {d:DataW Unit} {g:Nat} (h:VarReads Tryz.prog W n d) (hg:Tryz.prog.globalNamed n=some g):g<W.heap.size:=by
 obtain ⟨g',t',cs,fuel,p,h1,_,h3,_⟩:=h;obtain rfl:=Option.some.inj (hg.symm.trans h1);unfold World.var? at h3;rw [hg] at h3;simp only [Option.bind_some] at h3;rcases Nat.lt_or_ge g W.heap.size with h | h
 ·exact h
 ·rw [Array.getElem?_eq_none h] at h3;cases h3
theorem Jdp {W:World} (h:laidMetH Tryz.prog Rows.tyMadeRow.laid W):QuoteG W (Ja W):=by
 have h0:laidMet Tryz.prog Rows.tyMadeRow.laid W:=h;have h1:=Mc h0;have h2:=Mc h1;have r1:VarReads Tryz.prog W "unicode/utf8.first" Rows.laid_unicode_utf8_first:=laidMet.reads h0 (by simp [Rows.tyMadeRow]);have r2:VarReads Tryz.prog W "unicode/utf8.acceptRanges" Rows.laid_unicode_utf8_acceptRanges:=laidMet.reads h0 (by simp [Rows.tyMadeRow]);have r3:VarReads Tryz.prog W "strconv.ErrSyntax" Rows.laid_strconv_ErrSyntax:=laidMet.reads h0 (by simp [Rows.tyMadeRow]);have r4:VarReads Tryz.prog W "strconv.ErrRange" Rows.laid_strconv_ErrRange:=laidMet.reads h0 (by simp [Rows.tyMadeRow]);have r5:VarReads Tryz.prog W "math/bits.deBruijn64tab" Rows.laid_math_bits_deBruijn64tab:=laidMet.reads h0 (by simp [Rows.tyMadeRow]);have r6:VarReads Tryz.prog W "internal/strconv.uint64pow10" Rows.laid_internal_strconv_uint64pow10:=laidMet.reads h0 (by simp [Rows.tyMadeRow]);refine ⟨?_,?_,?_,?_,?_,Kv r1 krf,Kv r2 krf,Kv r3 krf,Kv r4 krf,Kv r5 krf,Kv r6 krf⟩
 ·have f1:VarReads Tryz.prog W "unicode/utf8.first" firstData:=by
   rw [← gFirst];exact laidMet.reads h0 (by simp [Rows.tyMadeRow,Rows.laid_unicode_utf8_first])
  have f2:VarReads Tryz.prog W "unicode/utf8.acceptRanges" acceptData:=laidMet.reads h0 (by
   rw [show (acceptData:DataW Unit)=Rows.laid_unicode_utf8_acceptRanges by kernel_rfl];simp [Rows.tyMadeRow])
  exact utf8Tabs_of_readsT u8T u8X f1 f2
 ·exact Xq r3 krf krf Tryz.underlying82 ⟨_,rfl⟩
 ·exact Xq r4 krf krf Tryz.underlying82 ⟨_,rfl⟩
 ·have ht:TabIs Tryz.prog W "math/bits.deBruijn64tab" .u8 tz64:=tabIs_of_head (g:=7) (t:=223) (e:=5) (n:=64) krf krf krf krf krf krf (k:=.u8) (zs:=tz64) h1;intro j hj;have:=ht.cell (g:=7) krf j (by simpa [tz64] using hj);rw [this];simp [tz64,List.getD_eq_getElem?_getD,hj]
 ·exact tabIs_of_head (g:=3) (t:=201) (e:=141) (n:=20) krf krf krf krf krf krf (k:=.u64) (zs:=Lib.pow10Tab) h2
def Yw (d:DataW Unit):List Value:=match d with
 | .agg l=>l.flatMap fun x=>match x with
  | .lit (.int k n)=>[Value.int k n]
  | .agg l'=>l'.flatMap fun y=>match y with
   | .lit (.int k n)=>[Value.int k n]
   | _=>[]
  | _=>[]
 | _=>[]
noncomputable def D9 (os:Os):World :=
 let N:=(World.settled Tryz.prog os).heap.size;let w0:=World.holding Tryz.prog os ⟨#[
  .cells #[.string ⟨#[118,97,108,117,101,32,111,117,116,32,111,102,32,114,97,110,103,101]⟩] 227,.cells #[.string ⟨#[105,110,118,97,108,105,100,32,115,121,110,116,97,120]⟩] 227],#[],[]⟩
 let put (h:Array Obj) (g:Nat) (cs:Array Value):Array Obj:=h.modify g fun
  | .cells _ t frozen=>.cells cs t frozen
  | o=>o
 let h1:=put w0.heap 6 (Yw Rows.laid_math_bits_deBruijn32tab).toArray;let h2:=put h1 7 (Yw Rows.laid_math_bits_deBruijn64tab).toArray;let h3:=put h2 3 (Yw Rows.laid_internal_strconv_uint64pow10).toArray;let h4:=put h3 1 (Yw Rows.laid_unicode_utf8_acceptRanges).toArray;let h5:=put h4 5 #[.iface 225 (.pointer (some ⟨N,0,none⟩))];let h6:=put h5 4 #[.iface 225 (.pointer (some ⟨N+1,0,none⟩))];let h7:=put h6 0 (Yw Rows.laid_unicode_utf8_first).toArray
 { w0 with heap:=h7 }
theorem Ma (os:Os) (args:Array Value):laidMet Tryz.prog Rows.tyMadeRow.laid ((D9 os).forCall (fun _ _=>0) ⟨#[],args,[]⟩).memory :=
 laidMet_of_run' 8 krf krf
theorem Jvc {P:Program} {W:World} {r:Reach} {b:Nat} {t:TypeId} {k:IntKind} {v:Value} (ht:P.underlying t=some (.int k)) (h:Cell.okWide P W r b t v):∃ n,v=.int k n∧k.has n:=by
 simp only [Cell.okWide,Cell.ok,ht] at h;cases v <;> simp_all
theorem Jxr {P:Program} {W:World} {r:Reach} {b:Nat} {t:TypeId} {v:Value} (ht:P.underlying t=some .string) (h:Cell.okWide P W r b t v):∃ s:List UInt8,v=.string ⟨⟨s⟩⟩∧s.length≤9223372036854775807:=by
 simp only [Cell.okWide,Cell.ok,ht] at h;cases v with
 | string s =>
  refine ⟨s.data.toList,by rw [Jc3],?_⟩;have h':(s.size:Int)≤IntKind.i64.max:=h;have e:IntKind.i64.max=9223372036854775807:=rfl;have e2:s.data.toList.length=s.size:=T8 s;omega
 | _=>simp at h
theorem J8d {P:Program} {W:World} {r:Reach} {b:Nat} {t:TypeId} {v:Value} (ht:P.underlying t=some .bool) (h:Cell.okWide P W r b t v):∃ x,v=.bool x:=by
 simp only [Cell.okWide,Cell.ok,ht] at h;cases v <;> simp_all
theorem trod_string {H:Type} {enc:TypeId×Value→H} {P:Program} {w:World} {base:Nat} {sp:Nat→Bool} {held:Bool} {t:TypeId} {s:List UInt8} {d:DataW H} {p:List MemPlace} (ht:P.underlying t=some .string) (h:DataW.Trod enc P w base sp held t (.string ⟨⟨s⟩⟩) d p):d=.lit (.string s):=by
 obtain ⟨fuel,h⟩:=h;cases fuel with
 | zero=>simp [DataW.trod] at h
 | succ f =>
  simp only [DataW.trod,ht,Value.cells] at h;split at h
  ·simp at h;exact h.1.symm
  ·cases h
theorem cBool:Tryz.prog.cellsOf 4=1:=krf
theorem cStr:Tryz.prog.cellsOf 9=1:=krf
theorem cInt:Tryz.prog.cellsOf 3=1:=krf
theorem cNode:Tryz.prog.cellsOf 23=6:=krf
def Step.vals (x:Step):List Value:=[.bool x.part,.string ⟨⟨x.name⟩⟩,.int .i64 x.n]
def Node.vals (n:Node):List Value:=[.int .i64 n.kind,.int .i64 n.many,.string ⟨⟨n.name⟩⟩,.string ⟨⟨n.s⟩⟩,.bool n.neg,.int .i64 n.e]
theorem Jly {H:Type} {enc:TypeId×Value→H} {w:World} (fuel:Nat) (cs:List Value) (y:DataW H×List MemPlace) (h:DataW.trod enc Tryz.prog w 0 (fun _=>true) true fuel 23 cs=some y) (_:∀ n∈y.1.weights Tryz.prog 23,n≤reachBytes) :
  ∃ x:Node,EFit x∧cs=x.vals:=by
 obtain ⟨xs,n,_,rfl,hl,hlen,hf⟩:=DataW.trod_struct Tryz.underlying23 h;rw [cNode] at hl
 match xs,hlen,cs,hl with
 | [y0,y1,y2,y3,y4,y5],_,[a0,a1,a2,a3,a4,a5],_ =>
  have g0:=hf 0 _ rfl;have g1:=hf 1 _ rfl;have g2:=hf 2 _ rfl;have g3:=hf 3 _ rfl;have g4:=hf 4 _ rfl;have g5:=hf 5 _ rfl;simp only [cBool,cStr,cInt,List.drop_zero,List.drop_succ_cons,List.take_succ_cons,List.take_zero,List.getElem?_cons_zero,List.getElem?_cons_succ] at g0 g1 g2 g3 g4 g5;obtain ⟨x0,e0,rfl,_⟩:=DataW.trod_int Tryz.underlying3 g0;obtain ⟨x1,e1,rfl,_⟩:=DataW.trod_int Tryz.underlying3 g1;obtain ⟨x2,e2,rfl,z2⟩:=DataW.trod_string Tryz.underlying9 g2;obtain ⟨x3,e3,rfl,z3⟩:=DataW.trod_string Tryz.underlying9 g3;obtain ⟨x4,e4,rfl⟩:=DataW.trod_bool Tryz.underlying4 g4;obtain ⟨x5,e5,rfl,z5⟩:=DataW.trod_int Tryz.underlying3 g5;cases e0;cases e1;cases e2;cases e3;cases e4;cases e5;have hm:maxLen=9223372036854775807:=by decide
  have k1:IntKind.i64.min = -9223372036854775808:=by decide
  have k2:IntKind.i64.max=9223372036854775807:=by decide
  simp only [Lit.wf,Bool.and_eq_true,decide_eq_true_eq,k1,k2] at z5;have s2:=T8 x2;have s3:=T8 x3;refine ⟨⟨x0,x1,x2.data.toList,x3.data.toList,x4,x5⟩,⟨?_,?_,z5.1,z5.2⟩,?_⟩
  ·show x3.data.toList.length≤_;omega
  ·show x2.data.toList.length≤_;omega
  ·simp only [Node.vals,Jc3]
theorem Jkh {P:Program} {W:World} {r:Reach} {b:Nat} {t e:TypeId} {v:Value} (ht:P.underlying t=some (.slice e)) (h:Cell.okWide P W r b t v):v.cells.toList=[v]:=by
 simp only [Cell.okWide,Cell.ok,ht] at h;cases v <;> first | rfl | (simp at h;done)
theorem J0 {H:Type} {P:Program} {ts:List TypeId} {ds:List (DataW H)} (hz:(DataW.weightsEach P ts ds).all (· ≤ reachBytes)=true) {j:Nat} {t:TypeId} {d:DataW H} (h1:ts[j]? = some t) (h2:ds[j]? = some d):∀ n∈d.weights P t,n≤reachBytes:=fun n hn=>by
 simpa using List.all_eq_true.1 hz n (DataW.weights_mem_each h1 h2 n hn)
theorem J0h {P:Program} (h:P.funcs.any Func.goes=false) (f:FuncId):P.goes f=false:=by
 unfold Program.goes;rw [h,Bool.and_false,Bool.or_false,List.any_eq_false];intro g _ hg;cases hf:P.funcs[g]? with
 | none=>rw [hf] at hg;cases hg
 | some fn =>
  rw [hf] at hg;rw [Array.any_eq_false] at h;obtain ⟨i,rfl⟩:=Array.getElem?_eq_some_iff.1 hf;exact h g i hg
theorem goesBy_none {P:Program} (h:P.funcs.any Func.goes=false) (c:OpenClaim):false=c.goesBy P:=by
 unfold OpenClaim.goesBy Program.goesAt Program.goesFrom;have h1:(P.funcNamed c.func).any P.goes=false:=by
  cases P.funcNamed c.func with
  | none=>rfl
  | some f=>exact J0h h f
 rw [h1,Bool.false_or];split
 ·rfl
 ·symm;rw [List.any_eq_false];intro g _ hg;rw [J0h h g] at hg;cases hg
theorem noGoes:Tryz.pinned.checked.prog.funcs.any Func.goes=false:=krf
end Go.LX
namespace Go.LX
open Go
structure YRow where
 kind:Int
 many:Int
 name:List UInt8
 s:List UInt8
 n:Int
 c:Node
def YRow.cells (r:YRow):List PV:=[.int .i64 r.kind,.int .i64 r.many,.str r.name,.str r.s,.int .i64 r.n,.int .i64 r.c.kind,.int .i64 r.c.many,.str r.c.name,.str r.c.s,.bool r.c.neg,.int .i64 r.c.e]
def rowL (v:List YRow):List (List PV):=v.map YRow.cells
mutual
inductive RT where
 | mk (kind:Int) (s:List UInt8) (n:Int) (c:Node) (kids:RF)
inductive RF where
 | nil
 | cons (name:List UInt8) (t:RT) (rest:RF)
end
def RF.len:RF→Nat
 | .nil=>0
 | .cons _ _ r=>r.len+1
mutual
def RT.enc (name:List UInt8):RT→List YRow
 | .mk k s n c kids=>⟨k,kids.len,name,s,n,c⟩ :: kids.enc
def RF.enc:RF→List YRow
 | .nil=>[]
 | .cons nm t r=>t.enc nm ++ r.enc
end
def RF.app:RF→RF→RF
 | .nil,g=>g
 | .cons nm t r,g=>.cons nm t (r.app g)
theorem Jrq:∀ f g:RF,(f.app g).len=f.len+g.len
 | .nil,g=>by simp [RF.app,RF.len]
 | .cons nm t r,g=>by simp only [RF.app,RF.len,Jrq r g];omega
theorem Jqh:∀ f g:RF,(f.app g).enc=f.enc ++ g.enc
 | .nil,g=>by simp [RF.app,RF.enc]
 | .cons nm t r,g=>by simp only [RF.app,RF.enc,Jqh r g,List.append_assoc]
theorem Jqi {name:List UInt8} {k:Int} {s:List UInt8} {n:Int} {c:Node} {kids:RF}:(RT.mk k s n c kids).enc name=⟨k,kids.len,name,s,n,c⟩ :: kids.enc:=by rw [RT.enc]
theorem Jqf {nm:List UInt8} {t:RT} {r:RF}:(RF.cons nm t r).enc=t.enc nm ++ r.enc:=by rw [RF.enc]
theorem Jq5:RF.nil.enc=[]:=by rw [RF.enc]
theorem Jr1 (t:RT) (nm:List UInt8):1≤(t.enc nm).length:=by
 cases t;rw [Jqi];simp
theorem Jq9:∀ f:RF,f.len≤f.enc.length
 | .nil=>by simp [RF.len]
 | .cons nm t r=>by
  have:=Jr1 t nm;have:=Jq9 r;rw [Jqf,List.length_append,RF.len];omega
@[simp] theorem Jqb (v:List YRow):(rowL v).length=v.length:=by simp [rowL]
theorem Jsy (n:YRow) (v:List YRow):rowL (n :: v)=n.cells :: rowL v:=rfl
theorem J9y:rowL []=[]:=rfl
theorem Jwj (a b:List YRow):rowL (a ++ b)=rowL a ++ rowL b:=by simp [rowL]
theorem Jrd {k m:Int} {nm s:List UInt8} {n:Int} {c:Node}:YRow.cells ⟨k,m,nm,s,n,c⟩=[.int .i64 k,.int .i64 m,.str nm,.str s,.int .i64 n,.int .i64 c.kind,.int .i64 c.many,.str c.name,.str c.s,.bool c.neg,.int .i64 c.e]:=rfl
theorem J5k (r:YRow):r.cells=[.int .i64 r.kind,.int .i64 r.many,.str r.name,.str r.s,.int .i64 r.n,.int .i64 r.c.kind,.int .i64 r.c.many,.str r.c.name,.str r.c.s,.bool r.c.neg,.int .i64 r.c.e]:=rfl
theorem Jre (v:List YRow):∀ q∈rowL v,q.length=11:=by
 intro q hq;obtain ⟨n,_,rfl⟩:=List.mem_map.1 hq;rfl
theorem Jve {v:List YRow} {i:Nat} {a b:List YRow} (h:v.drop i=a ++ b):((rowL v).drop i).take a.length=rowL a:=by
 have:(rowL v).drop i=rowL a ++ rowL b:=by rw [← Jwj,← h];simp [rowL,List.map_drop]
 rw [this];simp
theorem Jrr {v:List YRow} {i:Nat} {n:YRow} {b:List YRow} (h:v.drop i=n :: b):(rowL v)[i]? = some n.cells:=by
 have:v[i]? = some n:=by
  have:=congrArg (·[0]?) h;simpa using this
 simp [rowL,this]
theorem Kar {v:List YRow} {i:Nat} {n:YRow} (h:v[i]? = some n):(rowL v)[i]? = some n.cells:=by simp [rowL,h]
theorem Jvd {v:List YRow} {i:Nat} {a:List YRow} (h:v.drop i=a) (ha:a≠[]):i+a.length=v.length:=by
 have:=congrArg List.length h;simp at this;have:1≤a.length:=by cases a <;> simp_all
 omega
def RF.list:RF→List (List UInt8×RT)
 | .nil=>[]
 | .cons nm t r=>(nm,t) :: r.list
theorem Jrb:∀ f:RF,f.list.length=f.len
 | .nil=>rfl
 | .cons _ _ r=>by simp [RF.list,RF.len,Jrb r]
def RT.kids:RT→RF
 | .mk _ _ _ _ k=>k
def RT.kind:RT→Int
 | .mk k _ _ _ _=>k
def RT.s:RT→List UInt8
 | .mk _ s _ _ _=>s
def RT.n:RT→Int
 | .mk _ _ n _ _=>n
def RT.c:RT→Node
 | .mk _ _ _ c _=>c
abbrev RKT:=List UInt8×RT
theorem Jr6 {nm:List UInt8} {t:RT} {r:RF}:(RF.cons nm t r).len=r.len+1:=rfl
def rnxt (L:Nat):List YRow→Nat→Option Nat
 | _,0=>some 0
 | [],_+1=>none
 | n :: r,o+1=>if n.many<0∨(L:Int)<n.many then none else (rnxt L r (o+n.many.toNat)).map (· + 1)
theorem Jwp:∀ (m:Nat) (F:RF),m≤F.len→∃ A B:RF,F=A.app B∧A.len=m
 | 0,F,_=>⟨.nil,F,rfl,rfl⟩
 | m+1,.nil,h=>by simp [RF.len] at h
 | m+1,.cons nm t r,h=>by
  obtain ⟨A,B,h1,h2⟩:=Jwp m r (by simp only [RF.len] at h;omega);exact ⟨.cons nm t A,B,by rw [RF.app,← h1],by simp only [RF.len,h2]⟩
theorem Jxe {L:Nat}:∀ {v:List YRow} {o k:Nat},rnxt L v o=some k→∃ F:RF,F.len=o∧v=F.enc ++ v.drop k∧F.enc.length=k
 | v,0,k,h=>by
  simp [rnxt] at h;subst h;exact ⟨.nil,rfl,by simp [Jq5],by simp [Jq5]⟩
 | [],o+1,k,h=>by simp [rnxt] at h
 | n :: r,o+1,k,h=>by
  simp only [rnxt] at h;split at h
  ·cases h
  ·rename_i hn;obtain ⟨k',h',rfl⟩:=Option.map_eq_some_iff.1 h;obtain ⟨F,h1,h2,h3⟩:=Jxe h';obtain ⟨A,B,rfl,hA⟩:=Jwp n.many.toNat F omg;rw [Jrq] at h1;rw [Jqh] at h2 h3;refine ⟨.cons n.name (.mk n.kind n.s n.n n.c A) B,by simp only [RF.len];omega,?_,?_⟩
   ·rw [Jqf,Jqi,List.drop_succ_cons];have e:(⟨n.kind,A.len,n.name,n.s,n.n,n.c⟩:YRow)=n:=by
     have:(A.len:Int)=n.many:=by omega
     rw [this]
    rw [e];simp only [List.cons_append,List.append_assoc];congr 1;rw [← List.append_assoc];exact h2
   ·rw [Jqf,Jqi,List.length_append,List.length_cons];rw [List.length_append] at h3;omega
theorem J12 {L:Nat}:∀ (n:Nat) (F:RF) (r:List YRow),F.enc.length≤n→F.enc.length≤L→rnxt L (F.enc ++ r) F.len=some F.enc.length
 | _,.nil,r,_,_=>by simp [RF.len,rnxt,Jq5]
 | 0,.cons nm t rest,r,h,_=>by
  have:=Jr1 t nm;rw [Jqf,List.length_append] at h;omega
 | n+1,.cons nm (.mk k s g e kids) rest,r,h,hL=>by
  rw [Jqf,Jqi,List.length_append,List.length_cons] at h hL;have hk:=Jq9 kids;have ih:=J12 (L:=L) n (kids.app rest) r (by rw [Jqh,List.length_append];omega) (by rw [Jqh,List.length_append];omega);rw [Jqh,Jrq,List.append_assoc,List.length_append] at ih;simp only [Jqf,Jqi,List.cons_append,List.append_assoc,RF.len,rnxt];rw [if_neg omg];simp only [Int.toNat_natCast];rw [Nat.add_comm rest.len,ih];simp only [Option.map_some,List.length_cons,List.length_append]
theorem J2f {v:List YRow}:rnxt v.length v 1=some v.length ↔ ∃ nm t,v=RT.enc nm t:=by
 constructor
 ·intro h;obtain ⟨F,h1,h2,h3⟩:=Jxe h;rw [List.drop_length,List.append_nil] at h2
  match F,h1,h2 with
  | .cons nm t .nil,_,h2=>exact ⟨nm,t,by rw [h2,Jqf,Jq5,List.append_nil]⟩
 ·rintro ⟨nm,t,rfl⟩;have:=J12 (L:=(t.enc nm).length) (t.enc nm).length (.cons nm t .nil) [] (by rw [Jqf,Jq5];simp) (by rw [Jqf,Jq5];simp);simpa [Jqf,Jq5,RF.len] using this
def Jsp (v:List YRow) (i o:Nat):Int:=match rnxt v.length (v.drop i) o with
 | some k=>((i+k:Nat):Int)
 | none=>-1
theorem J5c (v:List YRow) (i:Nat):Jsp v i 0=i:=by
 unfold Jsp;have:rnxt v.length (v.drop i) 0=some 0:=by cases v.drop i <;> rfl
 rw [this];rfl
theorem J66 {v:List YRow} {i o:Nat} (h:v.length≤i) (ho:0<o):Jsp v i o = -1:=by
 unfold Jsp;rw [List.drop_eq_nil_of_le h];cases o with
 | zero=>omega
 | succ o=>rfl
theorem J75 {v:List YRow} {i o:Nat} {n:YRow} (h:v[i]? = some n) (ho:0<o) (hb:n.many<0∨(v.length:Int)<n.many):Jsp v i o = -1:=by
 have hi:=(List.getElem?_eq_some_iff.1 h).1;unfold Jsp;rw [List.drop_eq_getElem_cons hi,(List.getElem?_eq_some_iff.1 h).2];cases o with
 | zero=>omega
 | succ o=>simp only [rnxt];rw [if_pos hb]
theorem J47 {v:List YRow} {i o:Nat} {n:YRow} (h:v[i]? = some n) (hb:¬ (n.many<0∨(v.length:Int)<n.many)):Jsp v i (o+1)=Jsp v (i+1) (o+n.many.toNat):=by
 have hi:=(List.getElem?_eq_some_iff.1 h).1;unfold Jsp;rw [List.drop_eq_getElem_cons hi,(List.getElem?_eq_some_iff.1 h).2];simp only [rnxt];rw [if_neg hb];cases rnxt v.length (v.drop (i+1)) (o+n.many.toNat) with
 | none=>rfl
 | some k=>simp only [Option.map_some];omega
theorem Jse {v:List YRow} {i:Nat} {n:YRow} (h:v[i]? = some n):(rowL v)[i]? = some [.int .i64 n.kind,.int .i64 n.many,.str n.name,.str n.s,.int .i64 n.n,.int .i64 n.c.kind,.int .i64 n.c.many,.str n.c.name,.str n.c.s,.bool n.c.neg,.int .i64 n.c.e]:=by
 simp [rowL,h,YRow.cells]
theorem Jyy:∀ {a b c d:RF},a.app b=c.app d→a.len=c.len→a=c∧b=d
 | .nil,b,.nil,d,h,_=>⟨rfl,h⟩
 | .nil,_,.cons _ _ _,_,_,h=>by simp [RF.len] at h
 | .cons _ _ _,_,.nil,_,_,h=>by simp [RF.len] at h
 | .cons nm t a,b,.cons nm' t' c,d,h,hl=>by
  rw [RF.app,RF.app] at h;injection h with h1 h2 h3
  obtain ⟨rfl,rfl⟩:=Jyy (a:=a) (b:=b) (c:=c) (d:=d) h3 (by simpa [RF.len] using hl);exact ⟨by rw [h1,h2],rfl⟩
theorem J5i:∀ (n:Nat) {F G:RF},F.enc.length≤n→F.len=G.len→F.enc=G.enc→F=G
 | _,.nil,.nil,_,_,_=>rfl
 | _,.nil,.cons _ _ _,_,h,_=>by simp [RF.len] at h
 | _,.cons _ _ _,.nil,_,h,_=>by simp [RF.len] at h
 | 0,.cons nm t r,.cons _ _ _,h,_,_=>by
  have:=Jr1 t nm;rw [Jqf,List.length_append] at h;omega
 | n+1,.cons nm (.mk k s g e kids) r,.cons nm' (.mk k' s' g' e' kids') r',h,hl,he=>by
  rw [Jqf,Jqi,List.length_append,List.length_cons] at h;rw [Jqf,Jqf,Jqi,Jqi,List.cons_append,List.cons_append] at he;injection he with h1 h2
  injection h1 with g1 g2 g3 g4 g5 g6
  rw [← Jqh,← Jqh] at h2;simp only [RF.len] at hl;have hk:kids.len=kids'.len:=by omega
  have:=J5i n (F:=kids.app r) (G:=kids'.app r') (by rw [Jqh,List.length_append];omega) (by rw [Jrq,Jrq];omega) h2;obtain ⟨rfl,rfl⟩:=Jyy this hk;rw [g1,g3,g4,g5,g6]
theorem J9b {t u:RT} {a b:List UInt8} (h:t.enc a=u.enc b):a=b∧t=u:=by
 have:=J5i (RF.cons a t .nil).enc.length (F:=.cons a t .nil) (G:=.cons b u .nil) (Nat.le_refl _) rfl (by rw [Jqf,Jqf,h]);injection this with h1 h2 _
 exact ⟨h1,h2⟩
theorem J45 {v:List YRow} (h:Jsp v 0 1=v.length):∃ nm t,v=RT.enc nm t:=by
 refine J2f.1 ?_;unfold Jsp at h;rw [List.drop_zero] at h;cases hn:rnxt v.length v 1 with
 | none=>rw [hn] at h;simp at h
 | some k=>rw [hn] at h;simp at h;rw [show k=v.length by omega]
def Jry:Node:=⟨0,0,[],[],false,0⟩
def Jqk (c:Node):Prop:=c.kind<5∧c.name=[]∧G3 c.kind c.s c.neg c.e c.many
instance (c:Node):Decidable (Jqk c):=by unfold Jqk;infer_instance
def Jrg (n:Int) (c:Node):Prop:=0≤n∧n≤5∧Jqk c
instance (n:Int) (c:Node):Decidable (Jrg n c):=by unfold Jrg;infer_instance
def fldS (s:List UInt8):Prop:=(Je s).2.2=0∧∀ x∈(Je s).1,x.part=false
instance (s:List UInt8):Decidable (fldS s):=by unfold fldS;infer_instance
def Jqu (k:Int) (s:List UInt8) (n:Int) (c:Node) (m:Int):Prop :=
 if k=0 then m=0∧s=[]∧n=0∧c=Jry
 else if k=1 then 0≤m∧1≤n∧n≤31∧s=[]∧c=Jry
 else if k=9 then m=0∧s=[]∧Jrg n c
 else if k=2 then 0≤m∧(n=0∨n=1)∧s=[]∧c=Jry
 else if k=4 then 0≤m∧n=0∧s=[]∧c=Jry
 else if k=3∨k=5∨k=6 then m=1∧n=0∧s=[]∧c=Jry
 else if k=7∨k=8 then m=1∧n=0∧c=Jry∧fldS s
 else False
instance (k:Int) (s:List UInt8) (n:Int) (c:Node) (m:Int):Decidable (Jqu k s n c m):=by unfold Jqu;infer_instance
def J3x (l:List RKT):Prop:=l.Pairwise fun p q=>Op.bytesLess p.1 q.1=true
def Jvp (k:Int) (p:RKT):Prop:=(p.2.kind=9 ↔ k=1)∧(k≠2→p.1=[])∧(k=2→valid p.1=true)
def Jra (k:Int) (l:List RKT):Prop:=(∀ p∈l,Jvp k p)∧(k=2→J3x l)
def J0w (name:List UInt8):List RKT→Option RT
 | []=>none
 | p :: l=>if p.1=name then some p.2 else J0w name l
def Juh:RT→List Step→Option RT
 | t,[]=>some t
 | t,x :: p=>if t.kind=2∧x.part=false then (J0w x.name t.kids.list).bind fun u=>Juh u p else none
theorem Jwy (t:RT):Juh t []=some t:=by cases t;rfl
theorem Jub {t:RT} {x:Step} {p:List Step}:Juh t (x :: p)=if t.kind=2∧x.part=false then (J0w x.name t.kids.list).bind fun u=>Juh u p else none:=by rw [Juh]
def Jwc (t:RT) (p:List Step):Prop:=∃ u,Juh t p=some u∧u.kind=1
def Js3 (k:Int) (s:List UInt8) (l:List RKT):Prop:=(k=7∨k=8)→∀ p,l.head? = some p→Jwc p.2 (Je s).1
mutual
def okR:RT→Prop
 | .mk k s n c kids=>Jqu k s n c kids.len∧Jra k kids.list∧Js3 k s kids.list∧okRF kids
def okRF:RF→Prop
 | .nil=>True
 | .cons _ t r=>okR t∧okRF r
end
theorem Jsv {k:Int} {s:List UInt8} {n:Int} {c:Node} {kids:RF}:okR (.mk k s n c kids) ↔ Jqu k s n c kids.len∧Jra k kids.list∧Js3 k s kids.list∧okRF kids:=by rw [okR]
theorem Jrv {nm:List UInt8} {t:RT} {r:RF}:okRF (.cons nm t r) ↔ okR t∧okRF r:=by rw [okRF]
theorem Jsc:okRF .nil:=by rw [okRF];trivial
theorem Jui:∀ {a b:RF},okRF (a.app b) ↔ okRF a∧okRF b
 | .nil,b=>by simp [RF.app,Jsc]
 | .cons nm t r,b=>by rw [RF.app,Jrv,Jrv,Jui (a:=r)];exact and_assoc.symm
theorem Jz5 {nm:List UInt8} {k:Int} {s:List UInt8} {n:Int} {c:Node} {kids r:RF}:okRF (.cons nm (.mk k s n c kids) r) ↔ Jqu k s n c kids.len∧Jra k kids.list∧Js3 k s kids.list∧okRF (kids.app r):=by
 rw [Jrv,Jsv,Jui];constructor
 ·rintro ⟨⟨h1,h2,h3,h4⟩,h5⟩;exact ⟨h1,h2,h3,h4,h5⟩
 ·rintro ⟨h1,h2,h3,h4,h5⟩;exact ⟨⟨h1,h2,h3,h4⟩,h5⟩
theorem Jv1:∀ {f:RF},okRF f ↔ ∀ p∈f.list,okR p.2
 | .nil=>by simp [RF.list,Jsc]
 | .cons nm t r=>by rw [Jrv,Jv1 (f:=r),RF.list,List.forall_mem_cons]
theorem Juu (k:Int):Jra k []:=⟨by simp,fun _=>.nil⟩
theorem J1r {k:Int} {p:RKT} {l:List RKT}:Jra k (p :: l) ↔ Jvp k p∧(k=2→∀ q,l.head? = some q→Op.bytesLess p.1 q.1=true)∧Jra k l:=by
 unfold Jra;constructor
 ·rintro ⟨h1,h2⟩;exact ⟨h1 p List.mem_cons_self,fun hk q hq=>(List.pairwise_cons.1 (h2 hk)).1 q (List.mem_of_head? hq),fun q hq=>h1 q (List.mem_cons_of_mem _ hq),fun hk=>(List.pairwise_cons.1 (h2 hk)).2⟩
 ·rintro ⟨h1,h2,h3,h4⟩;refine ⟨fun q hq=>?_,fun hk=>List.pairwise_cons.2 ⟨fun q hq=>?_,h4 hk⟩⟩
  ·rcases List.mem_cons.1 hq with rfl | hq
   ·exact h1
   ·exact h3 q hq
  ·cases l with
   | nil=>cases hq
   | cons r l =>
    have h7:=h2 hk r rfl;rcases List.mem_cons.1 hq with rfl | hq
    ·exact h7
    ·exact H8 h7 ((List.pairwise_cons.1 (h4 hk)).1 q hq)
def Jys (v:List YRow):Prop:=∃ t,okR t∧t.kind≠9∧v=t.enc []
open Classical in
noncomputable def Jrp (v:List YRow):Bool:=decide (Jys v)
theorem Jrz {v:List YRow}:Jrp v=true ↔ Jys v:=by unfold Jrp;exact @decide_eq_true_iff _ (Classical.propDecidable _)
theorem Jrl {v:List YRow} (h:¬ Jys v):false=Jrp v:=by
 cases hb:Jrp v with
 | false=>rfl
 | true=>exact absurd (Jrz.1 hb) h
theorem Jvu {t:RT}:Jys (t.enc []) ↔ okR t∧t.kind≠9:=by
 constructor
 ·rintro ⟨u,hu,hk,h⟩;obtain ⟨_,rfl⟩:=J9b h;exact ⟨hu,hk⟩
 ·exact fun h=>⟨t,h.1,h.2,rfl⟩
theorem J2c {v:List YRow} (h:Jys v):Jsp v 0 1=v.length:=by
 obtain ⟨t,_,_,rfl⟩:=h;have:=J2f.2 ⟨[],t,rfl⟩;unfold Jsp;rw [List.drop_zero,this];simp
end Go.LX
set_option maxHeartbeats 2000000
namespace Go.LX
open Go Go.RowKit Go.Proofs
attribute [local irreducible] Al SWP Bi
theorem J0a (v:List YRow) (i:Nat) (nm:List UInt8) (t:RT) (rest:List YRow) (hv:v.length≤1000000) (h:v.drop i=t.enc nm ++ rest):Det cx 41 [.p (.sl (rowL v)),.p (.int .i64 i)] [] (.p (.int .i64 (i+(t.enc nm).length:Nat))) []:=by
 (refine bgo Tryz.func41 ?_;simp only [go_sem,simprocAttr]);have hp:=Jr1 t nm;have hb:=Jvd h (fun e=>by have e2:(t.enc nm ++ rest).length=0:=(by rw [e];rfl);rw [List.length_append] at e2;omega);rw [List.length_append] at hb;refine SWP.loop (fun x:Nat×Nat×RF=>⟨Ba 19 [(0,.p (.sl (rowL v))),(1,.p (.int .i64 x.1)),(5,.p (.int .i64 x.2.1))],[]⟩) (fun x=>x.2.1=x.2.2.len∧v.drop x.1=x.2.2.enc ++ rest∧x.1+x.2.2.enc.length=i+(t.enc nm).length) (fun x=>x.2.2.enc.length) (i,1,.cons nm t .nil) Jqc ⟨rfl,by simp [Jqf,Jq5,h],by simp [Jqf,Jq5]⟩ ?_;rintro ⟨j,left,F⟩ ⟨h0,h1,h2⟩;simp only at h0 h1 h2
 match F,h0,h1,h2 with
 | .nil,h0,h1,h2 =>
  rw [Jq5] at h2;simp only [RF.len] at h0;subst h0;(refine lws ?_;simp only [go_sem,simprocAttr]);simp only [List.length_nil] at h2;omega
 | .cons nm' (.mk k s g e kids) r,h0,h1,h2 =>
  rw [Jr6] at h0;rw [Jqf,Jqi] at h1 h2;have hg:=Jrr h1;rw [Jrd] at hg;simp only [List.length_cons,List.length_append] at h2;have hl1:=Jq9 kids;have hl2:=Jq9 r;have w0:IntKind.i64.wrap ((kids.len:Int) - 1)=(kids.len:Int) - 1:=Aa omg omg;have w1:IntKind.i64.wrap ((left:Int)+((kids.len:Int) - 1))=((r.len+kids.len:Nat):Int):=by rw [Aa omg omg];omega
  (refine lws ?_;simp only [go_sem,simprocAttr,wj1 (i:=j) omg,hg,w0,w1]);(repeat' (first | (apply iteI <;> intro h)|(exfalso;omega)))
  ·exact ⟨(j+1,r.len+kids.len,kids.app r),⟨by simp only [Jrq];omega,by
    simp only [Jqh];rw [← List.drop_drop,h1];simp,by simp only [Jqh,List.length_append];omega⟩,by simp only [Jqh,Jqf,Jqi,List.length_append,List.length_cons];omega,Jqc⟩
theorem Jyf (c:List PV) (cs:List (List PV)) (h6:∀ q∈c :: cs,q.length=11) (hl:cs.length≤1000000):Det cx 22 [.p (.sl (c :: cs))] [] (.own 900 0 (cs.length+1)) [(900,.row 25 11 (c :: cs))]:=by
 (refine bgoR true [(7,900)] Tryz.func22 ?_;simp only [go_sem,simprocAttr]);(repeat' (first | (refine Jqd ?_) | fail));omega
theorem J14 (v:List YRow):Det cx 28 [.p (.sl (rowL v))] [] (.fn 40 [900]) [(900,.var 29 [.p (.sl (rowL v))])]:=by
 (refine bgoR true [(1,900)] Tryz.func28 ?_;simp only [go_sem,simprocAttr])
def Jro:Nat→RF→List (List PV)
 | _,.nil=>[]
 | i,.cons nm t r=>[.int .i64 i,.int .i64 (i+(t.enc nm).length:Nat)] :: Jro (i+(t.enc nm).length) r
theorem Js2:∀ (i:Nat) (f:RF),(Jro i f).length=f.len
 | _,.nil=>rfl
 | i,.cons nm t r=>by rw [Jro,List.length_cons,Js2 _ r,Jr6]
theorem Ju2:∀ {i:Nat} {f:RF} {k:Nat} {x:List PV},(Jro i f)[k]? = some x→∃ (j:Nat) (p:RKT) (b:List YRow),f.list[k]? = some p∧f.enc.drop j=p.2.enc p.1 ++ b∧x=[.int .i64 (i+j:Nat),.int .i64 (i+j+(p.2.enc p.1).length:Nat)]
 | i,.nil,k,x,h=>by simp [Jro] at h
 | i,.cons nm t r,0,x,h=>by
  simp only [Jro,List.getElem?_cons_zero,Option.some.injEq] at h;exact ⟨0,(nm,t),r.enc,rfl,by rw [List.drop_zero,Jqf],by rw [← h];rfl⟩
 | i,.cons nm t r,k+1,x,h=>by
  simp only [Jro,List.getElem?_cons_succ] at h;obtain ⟨j,p,b,h1,h2,h3⟩:=Ju2 h;refine ⟨(t.enc nm).length+j,p,b,h1,?_,?_⟩
  ·rw [Jqf,← List.drop_drop,List.drop_left,h2]
  ·rw [h3];simp only [Nat.add_assoc]
theorem Ju7 {i:Nat} {f:RF} {x:List PV} (h:x∈Jro i f):x.length=2:=by
 obtain ⟨k,hk⟩:=List.getElem?_of_mem h;obtain ⟨j,p,b,_,_,rfl⟩:=Ju2 hk;rfl
theorem J11 (nm:List UInt8) (kd:Int) (s:List UInt8) (g:Int) (e:Node) (kids:RF) (hv:kids.enc.length≤999999):Tb cx 40 [.eptr [.sl (rowL ((RT.mk kd s g e kids).enc nm))]] (if kd=1 then [] else Jro 1 kids):=by
 have hl:=Jq9 kids;generalize hvv:(RT.mk kd s g e kids).enc nm=v;have h0:v.drop 0=⟨kd,kids.len,nm,s,g,e⟩ :: kids.enc:=by rw [← hvv,Jqi];rfl
 have hg0:=Jrr h0;rw [Jrd] at hg0;have hvl:v.length=kids.enc.length+1:=by rw [← hvv,Jqi];rfl
 by_cases hk1:kd=1
 ·subst hk1;rw [if_pos rfl];(refine Jsm (X:=cx) Tryz.func40 krf rfl krf (by simp only [List.length_cons,List.length_nil,Tryz.ntmps40];decide) fun l=>?_;refine N9 _ _ _ _ ?_;simp only [Tryz.ntmps40,go_sem,simprocAttr,hg0]);refine JWP.loop (fun x:Nat×Nat×RF=>(some 0,⟨Ba 28 [(0,.yld l),(1,.eptr [.sl (rowL v)]),(3,.p (.int .i64 x.2.1)),(8,.p (.int .i64 kids.len)),(9,.p (.int .i64 x.1))],[]⟩)) (fun x=>x.1+x.2.2.len=kids.len∧v.drop x.2.1=x.2.2.enc∧x.2.1+x.2.2.enc.length=v.length) (fun x=>x.2.2.enc.length) (0,1,kids) rfl Jqc ⟨by simp,by rw [← hvv,Jqi];rfl,by simp only;omega⟩ ?_;rintro ⟨k,j,F⟩ ⟨h1,h2,h3⟩;simp only at h1 h2 h3 ⊢
  match F,h1,h2,h3 with
  | .nil,h1,h2,h3 =>
   simp only [RF.len] at h1;(refine N9 _ _ _ _ ?_;simp only [go_sem,simprocAttr]);(repeat' (first | (apply iteI <;> intro h)|(exfalso;omega)));simp
  | .cons nm' t' r,h1,h2,h3 =>
   rw [Jr6] at h1;rw [Jqf] at h2 h3;rw [List.length_append] at h3;have hp:=Jr1 t' nm';(refine N9 _ _ _ _ ?_;simp only [go_sem,simprocAttr,wj1 (i:=k) omg]);(repeat' (first | (apply iteI <;> intro h)|((refine Jqa (J0a v j nm' t' r.enc omg h2) ?_);simp only [go_sem,simprocAttr,hg0,wj1 (i:=k) omg])|(exfalso;omega)))
   ·exact ⟨(k+1,j+(t'.enc nm').length,r),⟨by simp only;omega,by simp only;rw [← List.drop_drop,h2,List.drop_left],by simp only;omega⟩,by simp only [Jqf,List.length_append];omega,Jqc⟩
   all_goals omega
 ·rw [if_neg hk1];have hk2:(kd=1)=False:=eq_false hk1;(refine Jsm (X:=cx) Tryz.func40 krf rfl krf (by simp only [List.length_cons,List.length_nil,Tryz.ntmps40];decide) fun l=>?_;refine N9 _ _ _ _ ?_;simp only [Tryz.ntmps40,go_sem,simprocAttr,hg0,hk2]);refine JWP.loop (fun x:Nat×Nat×RF=>(some x.1,⟨Ba 28 [(0,.yld l),(1,.eptr [.sl (rowL v)]),(3,.p (.int .i64 x.2.1)),(8,.p (.int .i64 kids.len)),(9,.p (.int .i64 x.1))],[]⟩)) (fun x=>x.1+x.2.2.len=kids.len∧v.drop x.2.1=x.2.2.enc∧x.2.1+x.2.2.enc.length=v.length∧(Jro 1 kids).drop x.1=Jro x.2.1 x.2.2) (fun x=>x.2.2.enc.length) (0,1,kids) rfl Jqc ⟨by simp,by rw [← hvv,Jqi];rfl,by simp only;omega,rfl⟩ ?_;rintro ⟨k,j,F⟩ ⟨h1,h2,h3,h4⟩;simp only at h1 h2 h3 h4 ⊢
  match F,h1,h2,h3,h4 with
  | .nil,h1,h2,h3,h4 =>
   simp only [RF.len] at h1;(refine N9 _ _ _ _ ?_;simp only [go_sem,simprocAttr]);(repeat' (first | (apply iteI <;> intro h)|(exfalso;omega)));rw [Js2];exact .inl (by congr 1)
  | .cons nm' t' r,h1,h2,h3,h4 =>
   rw [Jr6] at h1;rw [Jqf] at h2 h3;rw [List.length_append] at h3;have hp:=Jr1 t' nm';(refine N9 _ _ _ _ ?_;simp only [go_sem,simprocAttr,wj1 (i:=k) omg]);(repeat' (first | (apply iteI <;> intro h)|((refine Jqa (J0a v j nm' t' r.enc omg h2) ?_);simp only [go_sem,simprocAttr,hg0,hk2,wj1 (i:=k) omg])|(exfalso;omega)))
   ·refine ⟨?_,⟨(k+1,j+(t'.enc nm').length,r),⟨by simp only;omega,by simp only;rw [← List.drop_drop,h2,List.drop_left],by simp only;omega,by simp only;rw [← List.drop_drop,h4];rfl⟩,by simp only [Jqf,List.length_append];omega,rfl,Jqc⟩,.inr trivial⟩;have:=congrArg (·[0]?) h4;simp only [List.getElem?_drop,Nat.add_zero] at this;rw [this];rfl
   all_goals omega
def Jsn (l:List RKT):List (List PV):=l.map fun p=>[.sl (rowL (p.2.enc []))]
@[simp] theorem tpartL_nil:Jsn []=[]:=rfl
theorem J3y {l:List RKT} {k:Nat} {p:List UInt8×RT} (h:l[k]? = some p):Jsn (l.take (k+1))=Jsn (l.take k) ++ [[.sl (rowL (p.2.enc []))]]:=by
 rw [List.take_add_one,h];simp [Jsn]
theorem Jvq (l:List RKT):(Jsn l).length=l.length:=by simp [Jsn]
theorem J8n (nm:List UInt8) (kd:Int) (s:List UInt8) (g:Int) (e:Node) (kids:RF) (hv:kids.enc.length≤999999) (hk1:kd≠1):Det cx 19 [.p (.sl (rowL ((RT.mk kd s g e kids).enc nm)))] [] (.p (.sl (Jsn kids.list))) []:=by
 have hie:=J11 nm kd s g e kids hv;rw [if_neg hk1] at hie;generalize hvv:(RT.mk kd s g e kids).enc nm=v at hie ⊢;have hvl:v.length=kids.enc.length+1:=by rw [← hvv,Jqi];rfl
 have hd1:v.drop 1=kids.enc:=by rw [← hvv,Jqi];rfl
 (refine bgo Tryz.func19 ?_;simp only [go_sem,simprocAttr]);(repeat' (first | ((refine Jqa (J14 _) ?_);simp only [go_sem,simprocAttr]) | fail));(refine SWP.range (Jro 1 kids) 24 [(22,900)] sm _ _ _ _ _ (fun k R=>R=if k=0 then [(1000,.var 27 [.p .snil]),(1001,.var 29 [.p (.sl (rowL v))])] else [(900,.row 29 1 (Jsn (kids.list.take k))),(1000,.var 27 [.own 900 0 k]),(1001,.var 29 [.p (.sl (rowL v))])]) (fun _ _=>False) (by rfl) (by rfl) (by rfl) (hie) (by simp only [go_sem,simprocAttr] <;> rfl) (by first | rfl | simp [Cg]) sm ?hps (by simp only [go_sem,simprocAttr] <;> rfl) (by simp only [go_sem,simprocAttr] <;> rfl) (by simp only [go_sem,simprocAttr] <;> rfl) ?h0 ?hkI ?hkS ?hSn ?round ?done ?stop)
 case hps=>exact fun x hx=>Ju7 hx
 case h0=>rfl
 case hkI=>rintro k R rfl;split <;> simp [Hg,findKey]
 case hkS=>exact fun _ _ h=>h.elim
 case hSn=>exact fun _ h=>h
 case stop=>exact fun _ _ h=>h.elim
 case round =>
  rintro k x R l hx rfl;obtain ⟨j,p,b,hp,hd,rfl⟩:=Ju2 hx;obtain ⟨nm',⟨k',s',g',e',kids'⟩⟩:=p;simp only at hd;have hdv:v.drop (1+j)=(RT.mk k' s' g' e' kids').enc nm' ++ b:=by rw [← List.drop_drop,hd1,hd]
  have hs:=Jve hdv;have hel:((RT.mk k' s' g' e' kids').enc nm').length=kids'.enc.length+1:=by rw [Jqi];rfl
  have hs':((rowL v).drop (1+j)).take (1+j+((RT.mk k' s' g' e' kids').enc nm').length - (1+j))=[.int .i64 k',.int .i64 kids'.len,.str nm',.str s',.int .i64 g',.int .i64 e'.kind,.int .i64 e'.many,.str e'.name,.str e'.s,.bool e'.neg,.int .i64 e'.e] :: rowL kids'.enc:=by
   rw [Nat.add_sub_cancel_left,hs,Jqi,Jsy,Jrd]
  have h6:∀ q∈[.int .i64 k',.int .i64 kids'.len,.str nm',.str s',.int .i64 g',.int .i64 e'.kind,.int .i64 e'.many,.str e'.name,.str e'.s,.bool e'.neg,.int .i64 e'.e] :: rowL kids'.enc,q.length=11:=fun q hq=>Jre ((RT.mk k' s' g' e' kids').enc nm') q (by rw [Jqi];exact hq)
  have htk:(rowL kids'.enc).take kids'.enc.length=rowL kids'.enc:=List.take_of_length_le sm;have hlen:=congrArg List.length hdv;rw [List.length_append,List.length_drop] at hlen;have hpe:Jsn (kids.list.take (k+1))=Jsn (kids.list.take k) ++ [[.sl (rowL ((RT.mk k' s' g' e' kids').enc []))]]:=J3y hp;rw [Jqi,Jsy,Jrd] at hpe;by_cases hk:k=0
  ·subst hk;rw [if_pos rfl];simp only [go_sem,simprocAttr];(refine lws ?_;simp only [go_sem,simprocAttr,hs',Jqb]);(repeat' (first | (refine And.intro (Jre _) ?_)|(refine Jqd ?_)|((refine Jqa (Jyf _ _ h6 (by rw [Jqb];omega)) ?_);simp only [go_sem,simprocAttr,htk,Nat.le_refl,Jqb]) | fail));refine ⟨by simp,_,rfl,?_⟩;rw [hpe];exact (Jqp (by simp only [Ar]) (by simp (disch:=omega) [Az,A3,Aw,Am,Af,Ai,Au,Aa]) (by simp [Ay]))
  ·rw [if_neg hk];have hkl:=(List.getElem?_eq_some_iff.1 hp).1;rw [Jrb] at hkl;have hll:=Jq9 kids;simp only [go_sem,simprocAttr];(refine lws ?_;simp only [go_sem,simprocAttr,hs',Jqb]);(repeat' (first | (refine And.intro (Jre _) ?_)|(refine Jqd ?_)|((refine Jqa (Jyf _ _ h6 (by rw [Jqb];omega)) ?_);simp only [go_sem,simprocAttr,htk,Nat.le_refl,Jqb]) | fail));refine ⟨by simp,by rw [Jvq,List.length_take,Jrb];omega,by omega,by omega,_,rfl,?_⟩;rw [hpe];exact (Jqp (by simp only [Ar]) (by simp (disch:=omega) [Az,A3,Aw,Am,Af,Ai,Au,Aa]) (by simp [Ay]))
 case done =>
  rintro R rfl;rw [Js2];have hll:=Jrb kids;by_cases hk:kids.len=0
  ·rw [if_pos hk];have hnil:kids.list=[]:=List.eq_nil_of_length_eq_zero omg;rw [hnil];simp only [go_sem,simprocAttr];refine ⟨⟨Ba 24 [(3,.ptr 3 0 0)],[(3,.var 27 [.p (.sl [])])]⟩,Jqc,?_⟩;simp only [go_sem,simprocAttr];rfl
  ·rw [if_neg hk];have htk:kids.list.take kids.len=kids.list:=List.take_of_length_le omg;rw [htk];have hpl:(kids.len≤(Jsn kids.list).length)=True:=eq_true (by rw [Jvq];omega);have hpt:(Jsn kids.list).take kids.len=Jsn kids.list:=List.take_of_length_le (by rw [Jvq];omega);simp only [go_sem,simprocAttr];refine ⟨_,St.Le.refl _,?_⟩;simp only [go_sem,simprocAttr,hpl,hpt]
def Jq8 (l:List (Int×Node)):List (List PV):=l.map fun a=>[.int .i64 a.1,.int .i64 a.2.kind,.int .i64 a.2.many,.str a.2.name,.str a.2.s,.bool a.2.neg,.int .i64 a.2.e]
def Jqq (l:List RKT):List (Int×Node):=l.map fun p=>(p.2.n,p.2.c)
@[simp] theorem Jr7 (l:List (Int×Node)):(Jq8 l).length=l.length:=by simp [Jq8]
theorem Jva {l:List (Int×Node)} {i:Nat} {a:Int×Node} (h:l[i]? = some a):(Jq8 l)[i]? = some [.int .i64 a.1,.int .i64 a.2.kind,.int .i64 a.2.many,.str a.2.name,.str a.2.s,.bool a.2.neg,.int .i64 a.2.e]:=by simp [Jq8,h]
theorem Jxv {l:List (Int×Node)} {i:Nat} {a:Int×Node} (h:l[i]? = some a):Jq8 (l.take (i+1))=Jq8 (l.take i) ++ [[.int .i64 a.1,.int .i64 a.2.kind,.int .i64 a.2.many,.str a.2.name,.str a.2.s,.bool a.2.neg,.int .i64 a.2.e]]:=by
 rw [List.take_add_one,h];simp [Jq8]
def Jyj (l:List RKT):Prop:=∀ p∈l,p.2.kids=.nil
theorem Jy1:∀ {f:RF},Jyj f.list→f.enc.length=f.len
 | .nil,_=>by rw [Jq5];rfl
 | .cons nm (.mk k s n c kids) r,h=>by
  have h1:kids=.nil:=h _ List.mem_cons_self;subst h1;have h2:=Jy1 (f:=r) fun p hp=>h p (List.mem_cons_of_mem _ hp)
  rw [Jqf,Jqi,Jq5,List.length_append,h2,Jr6];simp;omega
theorem Jxz:∀ {f:RF} {i:Nat} {p:RKT},Jyj f.list→f.list[i]? = some p→f.enc[i]? = some ⟨p.2.kind,0,p.1,p.2.s,p.2.n,p.2.c⟩
 | .nil,i,p,_,h=>by simp [RF.list] at h
 | .cons nm (.mk k s n c kids) r,i,p,h,hp=>by
  have h1:kids=.nil:=h _ List.mem_cons_self;subst h1;rw [Jqf,Jqi,Jq5];cases i with
  | zero =>
   simp only [RF.list,List.getElem?_cons_zero,Option.some.injEq] at hp;subst hp;rfl
  | succ i =>
   simp only [RF.list,List.getElem?_cons_succ] at hp;have:=Jxz (f:=r) (fun p hp=>h p (List.mem_cons_of_mem _ hp)) hp;simpa using this
theorem J5b (nm:List UInt8) (kd:Int) (s:List UInt8) (g:Int) (e:Node) (kids:RF) (hv:kids.enc.length≤999999) (hk:Jyj kids.list):Det cx 33 [.p (.sl (rowL ((RT.mk kd s g e kids).enc nm))),.p (.int .i64 0)] [] (.p (.sl (Jq8 (Jqq kids.list)))) []:=by
 have hll:=Jrb kids;have hel:=Jy1 hk;generalize hvv:(RT.mk kd s g e kids).enc nm=v;have h0:v.drop 0=⟨kd,kids.len,nm,s,g,e⟩ :: kids.enc:=by rw [← hvv,Jqi];rfl
 have hg0:=Jrr h0;rw [Jrd] at hg0;have hvl:v.length=kids.enc.length+1:=by rw [← hvv,Jqi];rfl
 have hd:((rowL v).drop 1).take (1+kids.len - 1)=rowL kids.enc:=by
  rw [← hvv,Jqi,Jsy,List.drop_succ_cons,List.drop_zero,List.take_of_length_le (by rw [Jqb];omega)]
 have hal:(Jqq kids.list).length=kids.len:=by simp [Jqq,hll]
 have w1:IntKind.i64.wrap (1+(kids.len:Int))=((1+kids.len:Nat):Int):=by rw [Aa omg omg];omega
 have w0:IntKind.i64.wrap 1=1:=by decide
 have w2:(((1+kids.len:Nat):Int)).toNat=1+kids.len:=Int.toNat_natCast _;(refine bgo Tryz.func33 ?_;simp only [go_sem,simprocAttr,hg0,hd,Jqb,w0,w1,w2,hel]);(repeat' (first | (refine And.intro (Jre _) ?_)|(refine Jqd ?_) | fail));refine SWP.loop (fun i:Nat=>if i=0 then ⟨Ba 35 [(5,.p .snil),(19,.p (.sl (rowL kids.enc))),(20,.p (.int .i64 kids.len)),(21,.p (.int .i64 0))],[]⟩ else ⟨Ba 35 [(5,.own 32 0 i),(19,.p (.sl (rowL kids.enc))),(20,.p (.int .i64 kids.len)),(21,.p (.int .i64 i))],[(32,.row 55 7 (Jq8 ((Jqq kids.list).take i)))]⟩) (fun i=>i≤kids.len) (fun i=>kids.len - i) 0 (by rw [if_pos rfl];exact Jqc) (Nat.zero_le _) ?_;rintro i hi;by_cases hlt:¬ i<kids.len
 ·have hi2:i=kids.len:=by omega
  subst hi2;by_cases hz:kids.len=0
  ·rw [if_pos hz];have hk0:Jqq kids.list=[]:=List.eq_nil_of_length_eq_zero omg;rw [hk0,hz];refine Jqn (show St.Le _ ⟨Ba 35 [(5,.p (.sl [])),(20,.p (.int .i64 0)),(21,.p (.int .i64 0))],[]⟩ from Jqc) ?_;(refine lws ?_;simp only [go_sem,simprocAttr]);rfl
  ·rw [if_neg hz];have c1:((kids.len:Int)<(kids.len:Int))=False:=eq_false omg;have hpl:(kids.len≤(Jqq kids.list).length)=True:=eq_true omg;have ht1:(Jqq kids.list).take kids.len=Jqq kids.list:=List.take_of_length_le omg;have ht2:(Jq8 (Jqq kids.list)).take kids.len=Jq8 (Jqq kids.list):=List.take_of_length_le (by rw [Jr7];omega);(refine lws ?_;simp only [go_sem,simprocAttr,c1,hpl,ht1,ht2,Jr7])
   skip
 ·have hlt:=Decidable.not_not.1 hlt;obtain ⟨p,hp⟩:∃ p,kids.list[i]? = some p:=⟨_,List.getElem?_eq_getElem omg⟩
  have hgi:=Kar (Jxz hk hp);rw [Jrd] at hgi;have hga:(Jqq kids.list)[i]? = some (p.2.n,p.2.c):=by simp [Jqq,hp]
  have htk:=Jxv hga;have hpl:(Jq8 ((Jqq kids.list).take i)).length=i:=by rw [Jr7,List.length_take];omega
  have c1:((i:Int)<(kids.len:Int))=True:=eq_true omg;by_cases hz:i=0
  ·subst hz;rw [if_pos rfl];have c2:((0:Int)<(kids.len:Int))=True:=eq_true omg;have hgi':(rowL kids.enc)[0]? = _:=hgi;(refine lws ?_;simp only [go_sem,simprocAttr,w0,c2,hgi',w0]);refine ⟨by simp,1,by omega,by omega,?_⟩;rw [htk,if_neg omg,show Jq8 (List.take 0 (Jqq kids.list))=[] from rfl,List.nil_append];exact Jqc
  ·rw [if_neg hz];(refine lws ?_;simp only [go_sem,simprocAttr,c1,hgi,hpl,wj1 (i:=i) omg]);refine ⟨by simp,by omega,by omega,i+1,by omega,by omega,?_⟩;rw [htk,if_neg omg];exact Jqc
theorem J3h (nm:List UInt8) (s:List UInt8) (g:Int) (e:Node) (kids:RF) (hv:kids.enc.length≤999999) (hk:Jyj kids.list):Det cx 20 [.p (.sl (rowL ((RT.mk 1 s g e kids).enc nm)))] [] (.p (.sl (Jq8 (Jqq kids.list)))) []:=by
 have h0:((RT.mk 1 s g e kids).enc nm).drop 0=⟨1,kids.len,nm,s,g,e⟩ :: kids.enc:=by rw [Jqi];rfl
 have hg0:=Jrr h0;rw [Jrd] at hg0;(refine bgo Tryz.func20 ?_;simp only [go_sem,simprocAttr,hg0]);(repeat' (first | ((refine Jqa (J5b nm 1 s g e kids hv hk) ?_);simp only [go_sem,simprocAttr]) | fail))
end Go.LX
namespace Go.LX
def Jqo (s:List UInt8):List UInt8:=s.dropWhile (· == 48)
def Jqx (s:List UInt8):List UInt8:=(s.reverse.dropWhile (· == 48)).reverse
theorem Ju1 {c:UInt8}:c.toNat=48 ↔ c=48:=by
 constructor
 ·intro h;exact UInt8.toNat_inj.1 (by simpa using h)
 ·intro h;subst h;rfl
theorem Jxt (c:UInt8) (l:List UInt8):at_ (c :: l) 0=c.toNat:=by simp [at_]
theorem J1l (l:List UInt8) (c:UInt8):at_ (l ++ [c]) l.length=c.toNat:=by simp [at_,List.getD_eq_getElem?_getD]
theorem J2s {u:List UInt8} (h:at_ u 0≠48):Jqo u=u:=by
 cases u with
 | nil=>rfl
 | cons c l =>
  rw [Jxt] at h;have:c≠48:=fun hc=>h (Ju1.2 hc)
  simp [Jqo,List.dropWhile_cons,this]
theorem Jy9 (u:List UInt8):(Jqo u).length≤u.length:=by
 exact (List.dropWhile_sublist _).length_le
theorem Jxj (u:List UInt8) (h:0<(Jqo u).length):at_ (Jqo u) 0≠48:=by
 induction u with
 | nil=>simp [Jqo] at h
 | cons c l ih =>
  by_cases hc:c=48
  ·subst hc;have:Jqo (48 :: l)=Jqo l:=by simp [Jqo]
   rw [this] at h ⊢;exact ih h
  ·have:Jqo (c :: l)=c :: l:=by simp [Jqo,List.dropWhile_cons,hc]
   rw [this,Jxt];exact fun hh=>hc (Ju1.1 hh)
theorem J6b {u:List UInt8} (h:0<u.length):∃ l c,u=l ++ [c]:=by
 have hne:u≠[]:=by intro hu;subst hu;simp at h
 exact ⟨u.dropLast,u.getLast hne,(List.dropLast_concat_getLast hne).symm⟩
theorem Jw4 (l:List UInt8) (c:UInt8):Jqx (l ++ [c])=if c=48 then Jqx l else l ++ [c]:=by
 simp only [Jqx,List.reverse_append,List.reverse_cons,List.reverse_nil,List.nil_append,List.cons_append,List.dropWhile_cons];by_cases h:c=48
 ·simp [h]
 ·simp [h]
theorem Jxh {u:List UInt8} (h0:0<u.length) (h:at_ u (u.length - 1)=48):Jqx (u.take (u.length - 1))=Jqx u:=by
 obtain ⟨l,c,rfl⟩:=J6b h0;have e:(l ++ [c]).length - 1=l.length:=by simp
 rw [e] at h ⊢;rw [J1l,Ju1] at h;rw [Jw4,if_pos h];simp
theorem Juj {u:List UInt8} (h0:0<u.length) (h:at_ u (u.length - 1)≠48):Jqx u=u:=by
 obtain ⟨l,c,rfl⟩:=J6b h0;have e:(l ++ [c]).length - 1=l.length:=by simp
 rw [e,J1l] at h;rw [Jw4,if_neg (fun hc=>h (Ju1.2 hc))]
theorem Jze (u:List UInt8):(Jqx u).length≤u.length:=by
 have:=(List.dropWhile_sublist (l:=u.reverse) (fun x=>x == 48)).length_le;simpa [Jqx] using this
theorem J7u {u:List UInt8} {n i:Nat} (h:i<n):at_ (u.take n) i=at_ u i:=by
 simp [at_,List.getD_eq_getElem?_getD,List.getElem?_take,h]
theorem Jx3:∀ (n:Nat) (u:List UInt8),u.length=n→0<u.length→at_ u 0≠48→0<(Jqx u).length
 | 0,u,hn,h0,_=>by omega
 | n+1,u,hn,h0,h=>by
  by_cases hl:at_ u (u.length - 1)=48
  ·have hn0:1<u.length:=by
    by_cases h1:u.length=1
    ·rw [h1] at hl;exact absurd hl h
    ·omega
   rw [← Jxh h0 hl];exact Jx3 n _ (by simp;omega) (by simp;omega) (by rw [J7u omg];exact h)
  ·rw [Juj h0 hl];exact h0
theorem J93 {s:List UInt8} (h0:0<s.length):Jqo (Jqx s)=s ↔ at_ s 0≠48∧at_ s (s.length - 1)≠48:=by
 constructor
 ·intro h;have hl:at_ s (s.length - 1)≠48:=by
   intro hc;have h1:=Jy9 (Jqx s);rw [h,← Jxh h0 hc] at h1;have h2:=Jze (s.take (s.length - 1));simp only [List.length_take] at h2;omega
  rw [Juj h0 hl] at h;have:=Jxj s (by rw [h];exact h0);rw [h] at this;exact ⟨this,hl⟩
 ·rintro ⟨h1,h2⟩;rw [Juj h0 h2,J2s h1]
end Go.LX
namespace Go.LX
open Go Go.RowKit Go.Proofs Go.Lib
def J88 (c:UInt8):Bool:=decide (48≤c.toNat) && decide (c.toNat≤57)
def Jq4 (s:List UInt8):Bool:=s.all J88
def figR (r:Nat):Bool:=decide (48≤r) && decide (r≤57)
theorem Jx5 {n b0 b1 b2 b3:Nat} (h:128≤b0):128≤(decodeN n b0 b1 b2 b3).1:=by
 unfold decodeN
 repeat' split
 all_goals first | omega | (simp_all;done)|(simp_all;omega)
theorem J2t {s:ByteArray} {pos:Nat} (h:figR (Utf8.decode s pos).1=true):figR (s.data.toList.getD pos 0).toNat=true∧(Utf8.decode s pos).2=1:=by
 rw [decode_N] at h ⊢;by_cases hb:(s.data.toList.getD pos 0).toNat<128
 ·rw [decodeN_ascii _ _ _ _ _ hb] at h ⊢;exact ⟨h,rfl⟩
 ·have:=Jx5 (n:=s.data.toList.length - pos) (b1:=(s.data.toList.getD (pos+1) 0).toNat) (b2:=(s.data.toList.getD (pos+2) 0).toNat) (b3:=(s.data.toList.getD (pos+3) 0).toNat) (by omega:128≤(s.data.toList.getD pos 0).toNat);simp only [figR,Bool.and_eq_true,decide_eq_true_eq] at h;omega
theorem J43 {s:ByteArray} {pos:Nat} (h:figR (s.data.toList.getD pos 0).toNat=true):Utf8.decode s pos=((s.data.toList.getD pos 0).toNat,1):=by
 rw [decode_N,decodeN_ascii];simp only [figR,Bool.and_eq_true,decide_eq_true_eq] at h;omega
theorem J2e {s:ByteArray}:∀ (f pos:Nat),s.size≤pos+f→idxFuncFrom figR false s f pos = -1→∀ j,pos≤j→j<s.size→figR (s.data.toList.getD j 0).toNat=true
 | 0,pos,hf,_,j,h1,h2=>by omega
 | f+1,pos,hf,h,j,h1,h2=>by
  unfold idxFuncFrom at h;rw [if_pos omg] at h;split at h
  ·omega
  ·rename_i hp;have hp':figR (Utf8.decode s pos).1=true:=by simpa using hp
   obtain ⟨g1,g2⟩:=J2t hp';by_cases hj:j=pos
   ·subst hj;exact g1
   ·rw [g2] at h;exact J2e f (pos+1) omg h j omg h2
theorem J36 {s:ByteArray}:∀ (f pos k:Nat),idxFuncFrom figR false s f pos=(k:Int)→k<s.size∧figR (s.data.toList.getD k 0).toNat=false
 | 0,pos,k,h=>by simp [idxFuncFrom] at h
 | f+1,pos,k,h=>by
  unfold idxFuncFrom at h;split at h
  ·rename_i hlt;split at h
   ·rename_i hp;have hk:pos=k:=by omega
    subst hk;refine ⟨hlt,?_⟩;cases hb:figR (s.data.toList.getD pos 0).toNat with
    | false=>rfl
    | true =>
     rw [J43 hb] at hp;simp only at hp;rw [hb] at hp;cases hp
   ·exact J36 f _ k h
  ·omega
theorem Jym {l:List UInt8} (hl:l≠[]) (h:figR (decodeLastL l).1=true):figR (l.getD (l.length - 1) 0).toNat=true∧(decodeLastL l).2=1:=by
 unfold decodeLastL at h ⊢;rw [if_neg hl] at h ⊢;split
 ·rename_i hb;rw [if_pos hb] at h;exact ⟨h,rfl⟩
 ·rename_i hb;rw [if_neg hb] at h;simp only at h;split at h
  ·rename_i hd;exfalso;have hlen:0<l.length:=List.length_pos_iff.2 hl;have hfig:(decodeL (l.drop (lastStart l))).1<128:=by simp [figR] at h;omega
   generalize hq:l.drop (lastStart l)=q at hfig hd;cases q with
   | nil =>
    have:=congrArg List.length hq;simp only [List.length_drop,List.length_nil] at this;rw [show (decodeL []).2=1 from by decide] at hd;omega
   | cons c r =>
    have hc:c.toNat<128:=by
     by_cases hc:c.toNat<128
     ·exact hc
     ·exfalso;simp only [decodeL] at hfig;rw [decode_N] at hfig;simp only [List.getD_cons_zero] at hfig;have:=fun n b1 b2 b3=>Jx5 (n:=n) (b1:=b1) (b2:=b2) (b3:=b3) (by omega:128≤c.toNat)
      exact absurd hfig (Nat.not_lt.2 (this _ _ _ _))
    rw [decodeL_ascii c r hc] at hd;simp only at hd;have hlr:r=[]:=by
     have:=congrArg List.length hq;simp at this;exact List.eq_nil_of_length_eq_zero omg
    subst hlr;have e:l.getD (l.length - 1) 0=c:=by
     have h1:l[lastStart l]? = some c:=by
      have:=congrArg (fun x=>x[0]?) hq;simpa using this
     have h2:l.length - 1=lastStart l:=by omega
     rw [h2];simp [List.getD_eq_getElem?_getD,h1]
    rw [e] at hb;exact hb hc
  ·exfalso;simp [figR,Utf8.runeError] at h
theorem J0q {s:ByteArray}:∀ (f i:Nat),i≤f→i≤s.size→lastIdxFuncFrom figR false s f i = -1→∀ j,j<i→figR (s.data.toList.getD j 0).toNat=true
 | 0,i,hf,_,h,j,hj=>by omega
 | f+1,i,hf,hs,h,j,hj=>by
  unfold lastIdxFuncFrom at h;rw [if_pos omg] at h;split at h
  ·omega
  ·rename_i hp;have hsz:s.data.toList.length=s.size:=by simp
   have hl:(s.data.toList.take i).length=i:=by rw [List.length_take];omega
   have hp':figR (decodeLastL (s.data.toList.take i)).1=true:=by simpa using hp
   obtain ⟨g1,g2⟩:=Jym (by intro hn;rw [hn] at hl;simp at hl;omega) hp';rw [hl] at g1;rw [g2] at h;by_cases hji:j=i - 1
   ·subst hji;have:(s.data.toList.take i).getD (i - 1) 0=s.data.toList.getD (i - 1) 0:=by
     simp [List.getD_eq_getElem?_getD,List.getElem?_take,show i - 1<i by omega]
    rw [← this];exact g1
   ·exact J0q f (i - 1) omg omg h j omg
theorem Jxa {l:List UInt8}:Jq4 l=true ↔ ∀ j,j<l.length→figR (l.getD j 0).toNat=true:=by
 simp only [Jq4,List.all_eq_true];constructor
 ·intro h j hj;have:=h l[j] (List.getElem_mem hj);simpa [List.getD_eq_getElem?_getD,hj,figR,J88] using this
 ·intro h x hx;obtain ⟨j,hj,rfl⟩:=List.getElem_of_mem hx;simpa [List.getD_eq_getElem?_getD,hj,figR,J88] using h j hj
theorem Jtd (s:ByteArray):s.data.toList.length=s.size:=by simp
theorem Jz2 (s:ByteArray):((trimF figR s).data.toList == [])=Jq4 s.data.toList:=by
 unfold trimF;by_cases hk:idxFunc figR false s = -1
 ·have h1:Jq4 s.data.toList=true:=by
   rw [Jxa];intro j hj;rw [Jtd] at hj;exact J2e s.size 0 omg hk j (Nat.zero_le _) hj
  rw [h1];unfold trimLeftF;rw [if_pos hk];unfold trimRightF;simp [ByteArray.data_extract]
 ·obtain ⟨k,hk2⟩:∃ k:Nat,idxFunc figR false s=k:=by
   rcases idxFunc_range figR false s with h | ⟨h,_⟩
   ·exact absurd h hk
   ·exact ⟨_,(Int.toNat_of_nonneg h).symm⟩
  obtain ⟨h1,h2⟩:=J36 _ _ _ hk2;have h3:Jq4 s.data.toList=false:=by
   cases hf:Jq4 s.data.toList with
   | false=>rfl
   | true =>
    rw [Jxa] at hf;rw [hf k (by rw [Jtd];exact h1)] at h2;cases h2
  rw [h3];have ht:trimLeftF figR s=s.extract k s.size:=by
   unfold trimLeftF;rw [if_neg hk,hk2];simp
  rw [ht];generalize hte:s.extract k s.size=t;have htl:t.data.toList=s.data.toList.drop k:=by
   rw [← hte];simp [ByteArray.data_extract,Array.toList_extract];rw [List.take_of_length_le sm]
  have hts:t.size=s.size - k:=by rw [← Jtd,htl,List.length_drop,Jtd]
  have h0:figR (t.data.toList.getD 0 0).toNat=false:=by
   rw [htl];simpa [List.getD_eq_getElem?_getD,List.getElem?_drop] using h2
  have hlast:0≤lastIdxFunc figR false t:=by
   rcases lastIdxFuncFrom_range figR false t t.size t.size with h | ⟨h,_⟩
   ·have:=J0q t.size t.size (Nat.le_refl _) (Nat.le_refl _) h 0 omg;rw [h0] at this;cases this
   ·exact h
  have hpos:1≤rightEndF figR t:=by
   unfold rightEndF;rw [if_pos hlast];unfold decodeGoB;by_cases hz:(lastIdxFunc figR false t).toNat=0
   ·rw [hz];have hsz:(t.extract 0 t.size).size=t.size:=by simp
    rw [if_neg (by rw [hsz];omega)];have:=decodeN_ge1;rw [decode_N];have:=this ((t.extract 0 t.size).data.toList.length - 0) ((t.extract 0 t.size).data.toList.getD 0 0).toNat ((t.extract 0 t.size).data.toList.getD (0+1) 0).toNat ((t.extract 0 t.size).data.toList.getD (0+2) 0).toNat ((t.extract 0 t.size).data.toList.getD (0+3) 0).toNat;omega
   ·omega
  have:(trimRightF figR t).data.toList≠[]:=by
   intro hn;unfold trimRightF at hn;have e:(t.extract 0 (rightEndF figR t)).data.toList=t.data.toList.take (rightEndF figR t):=by simp [ByteArray.data_extract,Array.toList_extract]
   rw [e] at hn;have hl:=congrArg List.length hn;rw [List.length_take,Jtd] at hl;simp only [List.length_nil] at hl;omega
  simpa using this
end Go.LX
namespace Go.LX
end Go.LX
namespace Go.LX
open Go Go.Proofs
abbrev Node.pv (n:Node):List PV:=n.cells
theorem Jst (n:Node):n.pv=[.int .i64 n.kind,.int .i64 n.many,.str n.name,.str n.s,.bool n.neg,.int .i64 n.e]:=(rfl)
def Jxu (many e:Int):Bool:=decide (-1000≤e) && decide (e≤1000) && decide (many+e≤1000)
theorem Jtb {m e:Int}:Jxu m e=false ↔ e < -1000∨1000<e∨1000<m+e:=by
 simp only [Jxu];by_cases h1:-1000≤e <;> by_cases h2:e≤1000 <;> by_cases h3:m+e≤1000 <;> simp [h1,h2,h3] <;> omega
def Jrn (n:Node):Bool :=
 if ¬ n.kind=3 then false else if ¬ n.many=0 then false else if ¬ n.name.length=0 then false else if Jq4 n.s=false then false else if 100<(n.s.length:Int) then false else
 if n.e < -1000 then false else if 1000<n.e then false else if 1000<(n.s.length:Int)+n.e then false else
 if n.s.length=0 then (if n.neg=false then n.e == 0 else false) else (if ¬ (at_ n.s 0:Int)=48 then ((at_ n.s (n.s.length - 1):Int) != 48) else false)
def cmpI (a b:Int):Int:=if a<b then -1 else if b<a then 1 else 0
def cmpS (a b:List UInt8):Int:=if Op.bytesLess a b=true then -1 else if (Op.bytesLess a b || a == b)=false then 1 else 0
def node0:Node:=⟨0,0,[],[],false,0⟩
def make (neg:Bool) (s:List UInt8) (e:Int):Node×Int :=
 if Jq4 s=false then (node0,4) else
 if (Jqo s).length=0 then ({ node0 with kind:=3 },0) else
 if e < -100000000 then (node0,2) else if 100000000<e then (node0,2) else
 let t:=Jqx (Jqo s);let e':=e+((Jqo s).length - t.length)
 if 100<(t.length:Int) then (node0,2) else if e' < -1000 then (node0,2) else if 1000<(t.length:Int)+e' then (node0,2) else
 ({ node0 with kind:=3,s:=t,neg:=neg,e:=e' },0)
def Jxs (a b:Node):Int :=
 if a.s.length=0 then cmpI a.s.length b.s.length else if b.s.length=0 then cmpI a.s.length b.s.length else
 if ¬ cmpI (a.s.length+a.e) (b.s.length+b.e)=0 then cmpI (a.s.length+a.e) (b.s.length+b.e) else cmpS a.s b.s
def Jyh (a b:Node):Int :=
 if a.neg=true∧b.neg=false then -1 else if b.neg=true∧a.neg=false then 1 else if a.neg=true then Jxs b a else Jxs a b
structure Node.small (n:Node):Prop where
 s:n.s.length≤1000000
 e1:-1000000≤n.e
 e2:n.e≤1000000
def Kag (f g:Int→Int) (side:Int):Nat→Int→Int
 | 0,_=>0
 | n+1,p=>if f p<g p then -side else if g p<f p then side else Kag f g side n (p - 1)
def Jtt (n:Node):List UInt8:=if n.neg=true then [45] else []
def Jsd (n:Node):List UInt8 :=
 if n.s.length=0 then [48] else
 if 0≤n.e∧(n.s.length:Int)+n.e≤20 then Jtt n ++ n.s ++ Lib.repeatL [48] n.e.toNat else
 if n.e<0∧-20≤n.e then
  Jtt n ++ (Lib.repeatL [48] (1 - n.e - n.s.length).toNat ++ n.s).take (((Lib.repeatL [48] (1 - n.e - n.s.length).toNat ++ n.s).length:Int)+n.e).toNat ++ [46] ++ (Lib.repeatL [48] (1 - n.e - n.s.length).toNat ++ n.s).drop (((Lib.repeatL [48] (1 - n.e - n.s.length).toNat ++ n.s).length:Int)+n.e).toNat
 else Jtt n ++ n.s ++ [101] ++ Lib.itoa n.e
def val (l:List UInt8):Int:=l.foldl (fun n c=>n * 10+((c.toNat:Int) - 48)) 0
end Go.LX
