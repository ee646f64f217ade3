/- Paths: from the laws' contracts to the rows: slices of steps and of nodes among the arguments. -/
import Derived.Test.YtgfggbndbceppaaGreatDoorLxS
import Derived.Test.YtgfggbndbceppaaGreatDoorCards
import Derived.Test.YtgfggbndbceppaaGreatDoorTie
import Derived.Deep.DeepHandedRow
import Derived.Deep.DeepWitnessRowRef
import Derived.Deep.Slices
import Derived.Lib.LaidIn
import Derived.Lib.LaidU8T
import Derived.Lib.LaidTab
import Derived.SizedLaws
import Derived.Test.YtgfggbndbceppaaGreatDoorLxN
import Derived.Test.YtgfggbndbceppaaGreatDoorLxR
import Derived.Test.YtgfggbndbceppaaGreatDoorLxQ
import Derived.Test.YtgfggbndbceppaaGreatDoorLxL
set_option linter.unusedSimpArgs false
set_option linter.unusedVariables false
set_option linter.unusedSectionVars false
set_option linter.unnecessarySimpa false
set_option maxRecDepth 100000
namespace Go.LX
open Go Go.Proofs Go.RowKit Go.ChangeShapes Go.WideShapes Go.ChangeAt Go.Lib
open Go.Proofs.YtgfggbndbceppaaGreatDoor
theorem Mc {P:Program} {w:World} {x:String×DataW Unit} {l:List (String×DataW Unit)} (h:laidMet P (x :: l) w):laidMet P l w:=by
 obtain ⟨ps,h1,h2,h3⟩:=h;obtain ⟨n,d⟩:=x;obtain ⟨g,t,cs,fuel,p,q,_,_,_,_,h5,rfl⟩:=h1;exact ⟨q,h5,(List.nodup_append.1 h2).2.1,fun b off hb=>h3 b off (List.mem_append_right _ hb)⟩
theorem Jc3 (x:ByteArray):(⟨⟨x.data.toList⟩⟩:ByteArray)=x:=by rcases x with ⟨⟨l⟩⟩;rfl
theorem T8 (s:ByteArray):s.data.toList.length=s.size:=by simp
theorem Jci {P:Program} {w:World} {sp:Nat→Bool} {t:TypeId} {cs:List Value} {nm:String} {d:DataW Unit} {p:List MemPlace} {u:TypeDesc} (ht:P.underlying t=some u) (hu:∃ m,u=.interface m) :
  ∀ {fuel:Nat},DataW.trod (fun _=>()) P w 0 sp false fuel t cs=some (.iface nm d,p)→∃ te pe,cs=[.iface te pe]
 | 0,h=>by simp [DataW.trod] at h
 | fuel+1,h=>by
  obtain ⟨m,rfl⟩:=hu;rcases cs with _ | ⟨c,_ | ⟨c2,cs⟩⟩
  ·simp [DataW.trod,ht] at h
  ·cases c <;> first | exact ⟨_,_,rfl⟩ | (simp [DataW.trod,ht] at h;done)
  ·simp [DataW.trod,ht] at h
theorem Xq {w:World} {n:String} {nm:String} {d:DataW Unit} {g:Nat} {t:TypeId} {u:TypeDesc} (h:VarReads Tryz.prog w n (.iface nm d)) (hg:Tryz.prog.globalNamed n=some g) (ht:(Tryz.prog.globals[g]?).map (·.type)=some t) (hu:Tryz.prog.underlying t=some u) (hi:∃ m,u=.interface m):Jk8 g w:=by
 obtain ⟨g',t',cs,fuel,p,h1,h2,h3,h4⟩:=h;obtain rfl:=Option.some.inj (hg.symm.trans h1);obtain rfl:=Option.some.inj (ht.symm.trans h2);obtain ⟨te,pe,e⟩:=Jci hu hi h4;refine ⟨te,pe,?_⟩;rw [World.var?_cell hg h3 0,← Array.getElem?_toList,e];rfl
theorem gOwn:ownKnob Tryz.prog.godebug=none:=krf
theorem L2:laidOutB Tryz.prog=true:=krf
theorem gFirst:Go.Pinned.utf8First=firstData:=krf
theorem u8T:U8Types Tryz.prog Tryz_lays197_renX:=⟨by kernel_rfl,by kernel_rfl,by kernel_rfl,by kernel_rfl⟩
theorem u8X:U8Extra Tryz.prog Tryz_lays197_renX:=⟨by kernel_rfl,by kernel_rfl,by kernel_rfl,by kernel_rfl,by kernel_rfl,by kernel_rfl,by kernel_rfl⟩
def tz64:List Int:=Lib.deBruijn64tab.map fun n:Nat=>(n:Int)
def Ja (W:World) (b:Nat):Prop:=b<W.heap.size
theorem Kv {W:World} {n:String} {d:DataW Unit} {g:Nat} (h:VarReads Tryz.prog W n d) (hg:Tryz.prog.globalNamed n=some g):g<W.heap.size:=by
 obtain ⟨g',t',cs,fuel,p,h1,_,h3,_⟩:=h;obtain rfl:=Option.some.inj (hg.symm.trans h1);unfold World.var? at h3;rw [hg] at h3;simp only [Option.bind_some] at h3;rcases Nat.lt_or_ge g W.heap.size with h | h
 ·exact h
 ·rw [Array.getElem?_eq_none h] at h3;cases h3
theorem Jdp {W:World} (h:laidMetH Tryz.prog Rows.termTellsRow.laid W):QuoteG W (Ja W):=by
 have h0:laidMet Tryz.prog Rows.termTellsRow.laid W:=h;have h1:=Mc h0;have h2:=Mc h1;have r1:VarReads Tryz.prog W "unicode/utf8.first" Rows.laid_unicode_utf8_first:=laidMet.reads h0 (by simp [Rows.termTellsRow]);have r2:VarReads Tryz.prog W "unicode/utf8.acceptRanges" Rows.laid_unicode_utf8_acceptRanges:=laidMet.reads h0 (by simp [Rows.termTellsRow]);have r3:VarReads Tryz.prog W "strconv.ErrSyntax" Rows.laid_strconv_ErrSyntax:=laidMet.reads h0 (by simp [Rows.termTellsRow]);have r4:VarReads Tryz.prog W "strconv.ErrRange" Rows.laid_strconv_ErrRange:=laidMet.reads h0 (by simp [Rows.termTellsRow]);have r5:VarReads Tryz.prog W "math/bits.deBruijn64tab" Rows.laid_math_bits_deBruijn64tab:=laidMet.reads h0 (by simp [Rows.termTellsRow]);have r6:VarReads Tryz.prog W "internal/strconv.uint64pow10" Rows.laid_internal_strconv_uint64pow10:=laidMet.reads h0 (by simp [Rows.termTellsRow]);refine ⟨?_,?_,?_,?_,?_,Kv r1 krf,Kv r2 krf,Kv r3 krf,Kv r4 krf,Kv r5 krf,Kv r6 krf⟩
 ·have f1:VarReads Tryz.prog W "unicode/utf8.first" firstData:=by
   rw [← gFirst];exact laidMet.reads h0 (by simp [Rows.termTellsRow,Rows.laid_unicode_utf8_first])
  have f2:VarReads Tryz.prog W "unicode/utf8.acceptRanges" acceptData:=laidMet.reads h0 (by
   rw [show (acceptData:DataW Unit)=Rows.laid_unicode_utf8_acceptRanges by kernel_rfl];simp [Rows.termTellsRow])
  exact utf8Tabs_of_readsT u8T u8X f1 f2
 ·exact Xq r3 krf krf Tryz.underlying125 ⟨_,rfl⟩
 ·exact Xq r4 krf krf Tryz.underlying125 ⟨_,rfl⟩
 ·have ht:TabIs Tryz.prog W "math/bits.deBruijn64tab" .u8 tz64:=tabIs_of_head (g:=5) (t:=242) (e:=5) (n:=64) krf krf krf krf krf krf (k:=.u8) (zs:=tz64) h1;intro j hj;have:=ht.cell (g:=5) krf j (by simpa [tz64] using hj);rw [this];simp [tz64,List.getD_eq_getElem?_getD,hj]
 ·exact tabIs_of_head (g:=2) (t:=197) (e:=165) (n:=20) krf krf krf krf krf krf (k:=.u64) (zs:=Lib.pow10Tab) h2
def Yw (d:DataW Unit):List Value:=match d with
 | .agg l=>l.flatMap fun x=>match x with
  | .lit (.int k n)=>[Value.int k n]
  | .agg l'=>l'.flatMap fun y=>match y with
   | .lit (.int k n)=>[Value.int k n]
   | _=>[]
  | _=>[]
 | _=>[]
noncomputable def D9 (os:Os):World :=
 let N:=(World.settled Tryz.prog os).heap.size;let w0:=World.holding Tryz.prog os ⟨#[
  .cells #[.string ⟨#[118,97,108,117,101,32,111,117,116,32,111,102,32,114,97,110,103,101]⟩] 263,.cells #[.string ⟨#[105,110,118,97,108,105,100,32,115,121,110,116,97,120]⟩] 263],#[],[]⟩
 let put (h:Array Obj) (g:Nat) (cs:Array Value):Array Obj:=h.modify g fun
  | .cells _ t frozen=>.cells cs t frozen
  | o=>o
 let h1:=put w0.heap 4 (Yw Rows.laid_math_bits_deBruijn32tab).toArray;let h2:=put h1 5 (Yw Rows.laid_math_bits_deBruijn64tab).toArray;let h3:=put h2 2 (Yw Rows.laid_internal_strconv_uint64pow10).toArray;let h4:=put h3 1 (Yw Rows.laid_unicode_utf8_acceptRanges).toArray;let h5:=put h4 7 #[.iface 261 (.pointer (some ⟨N,0,none⟩))];let h6:=put h5 6 #[.iface 261 (.pointer (some ⟨N+1,0,none⟩))];let h7:=put h6 0 (Yw Rows.laid_unicode_utf8_first).toArray
 { w0 with heap:=h7 }
theorem Ma (os:Os) (args:Array Value):laidMet Tryz.prog Rows.termTellsRow.laid ((D9 os).forCall (fun _ _=>0) ⟨#[],args,[]⟩).memory :=
 laidMet_of_run' 8 krf krf
theorem trod_string {H:Type} {enc:TypeId×Value→H} {P:Program} {w:World} {base:Nat} {sp:Nat→Bool} {held:Bool} {t:TypeId} {s:List UInt8} {d:DataW H} {p:List MemPlace} (ht:P.underlying t=some .string) (h:DataW.Trod enc P w base sp held t (.string ⟨⟨s⟩⟩) d p):d=.lit (.string s):=by
 obtain ⟨fuel,h⟩:=h;cases fuel with
 | zero=>simp [DataW.trod] at h
 | succ f =>
  simp only [DataW.trod,ht,Value.cells] at h;split at h
  ·simp at h;exact h.1.symm
  ·cases h
theorem Jkw {α:Type} {Q:Nat→α→Prop}:∀ n,(∀ i,i<n→∃ x,Q i x)→∃ p:List α,p.length=n∧∀ i x,p[i]? = some x→Q i x
 | 0,_=>⟨[],rfl,fun i x h=>by simp at h⟩
 | n+1,h=>by
  obtain ⟨p,hp,hq⟩:=Jkw n fun i hi=>h i omg
  obtain ⟨x,hx⟩:=h n omg;refine ⟨p ++ [x],by simp [hp],fun i y hy=>?_⟩;rcases Nat.lt_trichotomy i n with hi | hi | hi
  ·rw [List.getElem?_append_left omg] at hy;exact hq i y hy
  ·subst hi;rw [List.getElem?_append_right omg,hp] at hy;simp at hy;subst hy;exact hx
  ·rw [List.getElem?_eq_none (by simp [hp];omega)] at hy;cases hy
theorem J8 {H:Type} {P:Program} {e:TypeId} {d:DataW H} {n:Nat}:∀ {l:List (DataW H)},d∈l→n∈d.weights P e→n∈DataW.weightsAll P e l
 | [],h,_=>by cases h
 | a :: l,h,hn=>by
  simp only [DataW.weightsAll,List.mem_append];rcases List.mem_cons.1 h with rfl | h
  ·exact .inl hn
  ·exact .inr (J8 h hn)
theorem Jka (b off k:Nat):(⟨b,off,none⟩:Addr).add k=⟨b,off+k,none⟩:=by
 unfold Addr.add;split
 ·rename_i h;subst h;rfl
 ·rfl
theorem Xx {α H:Type} {enc:TypeId×Value→H} {P:Program} {w:World} {t e:TypeId} {c:Nat} (vals:α→List Value) (cells:α→List PV) (Good:α→Prop)
  (ht:P.underlying t=some (.slice e)) (hc:P.cellsOf e=c) (hb:0<P.bytesOf e) (hvl:∀ x,(vals x).length=c) (hcl:∀ x,(cells x).length=c) (hsc:∀ x,∀ p∈cells x,p.scalar=true)
  (hrep:∀ (Im:Nat→Prop) x j p,(cells x)[j]? = some p→PRep w Im ((vals x).getD j undef) p)
  (each:∀ (fuel:Nat) (cs:List Value) (y:DataW H×List MemPlace),DataW.trod enc P w 0 (fun _=>true) true fuel e cs=some y→(∀ n∈y.1.weights P e,n≤reachBytes)→∃ x,Good x∧cs=vals x)
  {b:Nat} {v:Value} (hok:Cell.okWide P w .any b t v) {fuel:Nat} {x:DataW H×List MemPlace} (h:DataW.trod enc P w 0 (fun _=>true) true fuel t [v]=some x) (hz:∀ n∈x.1.weights P t,n≤reachBytes) :
  ∃ p:List α,p.length≤140737488355328∧(∀ a∈p,Good a)∧PRep w (Ja w) v (.sl (p.map cells)):=by
 rcases Go.Deep.open_slice ht h with ⟨e1,rfl⟩ | ⟨a,len,cap,m,n,D,Pl,e1,hb0,hl,hm,hmm,rfl,hx⟩
 ·obtain rfl:=(List.cons.inj e1).1;exact ⟨[],by simp,by simp,PRep.slNil⟩
 ·obtain rfl:=(List.cons.inj e1).1;simp only [Cell.okWide,Cell.ok,ht] at hok;obtain ⟨_,_,_,hsp,row,cl,hshape,_⟩:=hok;obtain ⟨blk,off,spot⟩:=a;simp only at hsp;subst hsp;simp only [if_true] at hmm;subst hmm;have hreach:reachBytes≤140737488355328:=by decide
  have hlen:len≤140737488355328:=by
   have h1:=hz ((len+(m - len)) * P.bytesOf e) (by simp [DataW.weights,ht]);have h2:len≤(len+(m - len)) * P.bytesOf e:=by
    have:(len+(m - len)) * 1≤(len+(m - len)) * P.bytesOf e:=Nat.mul_le_mul_left _ hb;omega
   omega
  obtain ⟨p,hp,hq⟩:=Jkw (Q:=fun i x=>Good x∧w.cells? 0 ((⟨blk,off,none⟩:Addr).add (i * c)) c=some (vals x)) len fun i hi=>by
   obtain ⟨cs',h1,h2⟩:=hx i omg;rw [hc] at h1;obtain ⟨x,hg,rfl⟩:=each n cs' _ h2 (fun k hk=>hz k (by
    simp only [DataW.weights,ht,List.mem_cons,List.mem_append];exact .inr (.inl (J8 (List.mem_map.2 ⟨i,List.mem_range.2 hi,rfl⟩) hk))))
   exact ⟨x,hg,h1⟩
  refine ⟨p,by omega,fun a ha=>?_,?_⟩
  ·obtain ⟨i,hi⟩:=List.getElem?_of_mem ha;exact (hq i a hi).1
  ·have hblk:blk<w.heap.size:=by
    rcases Nat.lt_or_ge blk w.heap.size with h | h
    ·exact h
    ·unfold World.shape? at hshape;rw [Array.getElem?_eq_none h] at hshape;cases hshape
   have e2:len=(p.map cells).length:=by simp [hp]
   have key:=PRep.sl (w:=w) (Im:=Ja w) blk off m c (p.map cells) (by rw [← e2];exact hl) hblk (fun i j=>match p[i]? with | some x=>(vals x).getD j undef | none=>undef)
    (fun r hr=>by obtain ⟨x,_,rfl⟩:=List.mem_map.1 hr;exact hcl x)
    (fun r hr=>by obtain ⟨x,_,rfl⟩:=List.mem_map.1 hr;exact hsc x)
    (fun i hi j hj=>by
     rw [← e2] at hi;obtain ⟨x,hx'⟩:∃ x,p[i]? = some x:=⟨_,List.getElem?_eq_getElem omg⟩
     have h1:=(World.cells?_some (hq i x hx').2).2.2 j hj;rw [Go.Deep.add_add,Jka,← Nat.add_assoc] at h1;rw [h1,hx'];have h3:j<(vals x).length:=by rw [hvl];exact hj
     simp [List.getD_eq_getElem?_getD,List.getElem?_eq_getElem h3])
    (fun i r j q hr hq'=>by
     rw [List.getElem?_map] at hr;cases hx':p[i]? with
     | none=>rw [hx'] at hr;cases hr
     | some x =>
      rw [hx'] at hr;obtain rfl:=Option.some.inj hr;exact hrep _ x j q hq')
   rw [← e2] at key;exact key
theorem Kc7:Tryz.prog.cellsOf 4=1:=krf
theorem cStr:Tryz.prog.cellsOf 9=1:=krf
theorem cInt:Tryz.prog.cellsOf 3=1:=krf
theorem cStep:Tryz.prog.cellsOf 67=3:=krf
theorem cNode:Tryz.prog.cellsOf 35=6:=krf
theorem bStep:0<Tryz.prog.bytesOf 67:=by decide +kernel
def Step.vals (x:Step):List Value:=[.bool x.part,.string ⟨⟨x.name⟩⟩,.int .i64 x.n]
def Node.vals (n:Node):List Value:=[.int .i64 n.kind,.int .i64 n.many,.string ⟨⟨n.name⟩⟩,.string ⟨⟨n.s⟩⟩,.bool n.neg,.int .i64 n.e]
theorem Jk6 {H:Type} {enc:TypeId×Value→H} {w:World} (fuel:Nat) (cs:List Value) (y:DataW H×List MemPlace) (h:DataW.trod enc Tryz.prog w 0 (fun _=>true) true fuel 67 cs=some y) (hz:∀ n∈y.1.weights Tryz.prog 67,n≤reachBytes) :
  ∃ x:Step,x.name.length≤140737488355328∧cs=x.vals:=by
 obtain ⟨xs,n,_,rfl,hl,hlen,hf⟩:=DataW.trod_struct Tryz.underlying67 h;rw [cStep] at hl
 match xs,hlen,cs,hl with
 | [y0,y1,y2],_,[a,b,c],_ =>
  have g0:=hf 0 _ rfl;have g1:=hf 1 _ rfl;have g2:=hf 2 _ rfl;simp only [Kc7,cStr,cInt,List.drop_zero,List.drop_succ_cons,List.take_succ_cons,List.take_zero,List.getElem?_cons_zero,List.getElem?_cons_succ] at g0 g1 g2;obtain ⟨x0,e0,rfl⟩:=DataW.trod_bool Tryz.underlying4 g0;obtain ⟨x1,e1,rfl,_⟩:=DataW.trod_string Tryz.underlying9 g1;obtain ⟨x2,e2,rfl,_⟩:=DataW.trod_int Tryz.underlying3 g2;cases e0;cases e1;cases e2;refine ⟨⟨x0,x1.data.toList,x2⟩,?_,?_⟩
  ·have h1:=hz x1.data.toList.length (by simp [DataW.weights,DataW.weightsEach,Tryz.underlying67]);have hreach:reachBytes≤140737488355328:=by decide
   exact Nat.le_trans h1 hreach
  ·simp only [Step.vals,Jc3]
theorem Jly {H:Type} {enc:TypeId×Value→H} {w:World} (fuel:Nat) (cs:List Value) (y:DataW H×List MemPlace) (h:DataW.trod enc Tryz.prog w 0 (fun _=>true) true fuel 35 cs=some y) (_:∀ n∈y.1.weights Tryz.prog 35,n≤reachBytes) :
  ∃ x:Node,EFit x∧cs=x.vals:=by
 obtain ⟨xs,n,_,rfl,hl,hlen,hf⟩:=DataW.trod_struct Tryz.underlying35 h;rw [cNode] at hl
 match xs,hlen,cs,hl with
 | [y0,y1,y2,y3,y4,y5],_,[a0,a1,a2,a3,a4,a5],_ =>
  have g0:=hf 0 _ rfl;have g1:=hf 1 _ rfl;have g2:=hf 2 _ rfl;have g3:=hf 3 _ rfl;have g4:=hf 4 _ rfl;have g5:=hf 5 _ rfl;simp only [Kc7,cStr,cInt,List.drop_zero,List.drop_succ_cons,List.take_succ_cons,List.take_zero,List.getElem?_cons_zero,List.getElem?_cons_succ] at g0 g1 g2 g3 g4 g5;obtain ⟨x0,e0,rfl,_⟩:=DataW.trod_int Tryz.underlying3 g0;obtain ⟨x1,e1,rfl,_⟩:=DataW.trod_int Tryz.underlying3 g1;obtain ⟨x2,e2,rfl,z2⟩:=DataW.trod_string Tryz.underlying9 g2;obtain ⟨x3,e3,rfl,z3⟩:=DataW.trod_string Tryz.underlying9 g3;obtain ⟨x4,e4,rfl⟩:=DataW.trod_bool Tryz.underlying4 g4;obtain ⟨x5,e5,rfl,z5⟩:=DataW.trod_int Tryz.underlying3 g5;cases e0;cases e1;cases e2;cases e3;cases e4;cases e5;have hm:maxLen=9223372036854775807:=by decide
  have k1:IntKind.i64.min = -9223372036854775808:=by decide
  have k2:IntKind.i64.max=9223372036854775807:=by decide
  simp only [Lit.wf,Bool.and_eq_true,decide_eq_true_eq,k1,k2] at z5;have s2:=T8 x2;have s3:=T8 x3;refine ⟨⟨x0,x1,x2.data.toList,x3.data.toList,x4,x5⟩,⟨?_,?_,z5.1,z5.2⟩,?_⟩
  ·show x3.data.toList.length≤_;omega
  ·show x2.data.toList.length≤_;omega
  ·simp only [Node.vals,Jc3]
theorem Jmi (w:World) (Im:Nat→Prop) (x:Step) (j:Nat) (p:PV) (h:x.cells[j]? = some p):PRep w Im (x.vals.getD j undef) p:=by
 match j,h with
 | 0,h=>cases h;exact PRep.bool _
 | 1,h=>cases h;exact PRep.str _
 | 2,h=>cases h;exact PRep.int _ _
 | j+3,h=>simp [Step.cells] at h
theorem Z7 {H:Type} {enc:TypeId×Value→H} {w:World} {b:Nat} {v:Value} (hok:Cell.okWide Tryz.prog w .any b 42 v) {fuel:Nat} {x:DataW H×List MemPlace} (h:DataW.trod enc Tryz.prog w 0 (fun _=>true) true fuel 42 [v]=some x) (hz:∀ n∈x.1.weights Tryz.prog 42,n≤reachBytes) :
  ∃ p:List Step,PathFit p∧PRep w (Ja w) v (.sl (Bb p)):=by
 obtain ⟨p,h1,h2,h3⟩:=Xx Step.vals Step.cells (fun x=>x.name.length≤140737488355328) Tryz.underlying42 cStep bStep (fun _=>rfl) (fun _=>rfl) (fun x p hp=>by simp [Step.cells] at hp;rcases hp with rfl | rfl | rfl <;> rfl) (Jmi w) Jk6 hok h hz;exact ⟨p,⟨h1,h2⟩,h3⟩
theorem Jkh {P:Program} {W:World} {r:Reach} {b:Nat} {t e:TypeId} {v:Value} (ht:P.underlying t=some (.slice e)) (h:Cell.okWide P W r b t v):v.cells.toList=[v]:=by
 simp only [Cell.okWide,Cell.ok,ht] at h;cases v <;> first | rfl | (simp at h;done)
theorem J0 {H:Type} {P:Program} {ts:List TypeId} {ds:List (DataW H)} (hz:(DataW.weightsEach P ts ds).all (· ≤ reachBytes)=true) {j:Nat} {t:TypeId} {d:DataW H} (h1:ts[j]? = some t) (h2:ds[j]? = some d):∀ n∈d.weights P t,n≤reachBytes:=fun n hn=>by
 simpa using List.all_eq_true.1 hz n (DataW.weights_mem_each h1 h2 n hn)
theorem J9z {H:Type} {enc:TypeId×Value→H} {w:World} {b:Nat} {v:Value} {d:DataW H} {q:List MemPlace} {ts:List TypeId} {ds:List (DataW H)} (hok:Value.okWide Tryz.prog w .any b 42 v) (h:DataW.Trod enc Tryz.prog w 0 (fun _=>true) true 42 v d q)
  (hz:(DataW.weightsEach Tryz.prog ts ds).all (· ≤ reachBytes)=true) {j:Nat} (h1:ts[j]? = some 42) (h2:ds[j]? = some d):∃ p:List Step,PathFit p∧PRep w (Ja w) v (.sl (Bb p)):=by
 simp only [Value.okWide,Tryz.underlying42] at hok;obtain ⟨fuel,h⟩:=h;rw [Jkh Tryz.underlying42 hok] at h;exact Z7 hok h (J0 hz h1 h2)
theorem J3b {P:Program} (h:P.funcs.any Func.goes=false) (f:FuncId):P.goes f=false:=by
 unfold Program.goes;rw [h,Bool.and_false,Bool.or_false,List.any_eq_false];intro g _ hg;cases hf:P.funcs[g]? with
 | none=>rw [hf] at hg;cases hg
 | some fn =>
  rw [hf] at hg;rw [Array.any_eq_false] at h;obtain ⟨i,rfl⟩:=Array.getElem?_eq_some_iff.1 hf;exact h g i hg
theorem goesBy_none {P:Program} (h:P.funcs.any Func.goes=false) (c:OpenClaim):false=c.goesBy P:=by
 unfold OpenClaim.goesBy Program.goesAt Program.goesFrom;have h1:(P.funcNamed c.func).any P.goes=false:=by
  cases P.funcNamed c.func with
  | none=>rfl
  | some f=>exact J3b h f
 rw [h1,Bool.false_or];split
 ·rfl
 ·symm;rw [List.any_eq_false];intro g _ hg;rw [J3b h g] at hg;cases hg
theorem noGoes:Tryz.pinned.checked.prog.funcs.any Func.goes=false:=krf
end Go.LX
namespace Go.LX
open Go
structure YRow where
 kind:Int
 many:Int
 name:List UInt8
 s:List UInt8
 n:Int
 c:Node
def YRow.cells (r:YRow):List PV:=[.int .i64 r.kind,.int .i64 r.many,.str r.name,.str r.s,.int .i64 r.n,.int .i64 r.c.kind,.int .i64 r.c.many,.str r.c.name,.str r.c.s,.bool r.c.neg,.int .i64 r.c.e]
def rowL (v:List YRow):List (List PV):=v.map YRow.cells
mutual
inductive RT where
 | mk (kind:Int) (s:List UInt8) (n:Int) (c:Node) (kids:RF)
inductive RF where
 | nil
 | cons (name:List UInt8) (t:RT) (rest:RF)
end
def RF.len:RF→Nat
 | .nil=>0
 | .cons _ _ r=>r.len+1
mutual
def RT.enc (name:List UInt8):RT→List YRow
 | .mk k s n c kids=>⟨k,kids.len,name,s,n,c⟩ :: kids.enc
def RF.enc:RF→List YRow
 | .nil=>[]
 | .cons nm t r=>t.enc nm ++ r.enc
end
def RF.app:RF→RF→RF
 | .nil,g=>g
 | .cons nm t r,g=>.cons nm t (r.app g)
theorem Jry:∀ f g:RF,(f.app g).len=f.len+g.len
 | .nil,g=>by simp [RF.app,RF.len]
 | .cons nm t r,g=>by simp only [RF.app,RF.len,Jry r g];omega
theorem Jqk:∀ f g:RF,(f.app g).enc=f.enc ++ g.enc
 | .nil,g=>by simp [RF.app,RF.enc]
 | .cons nm t r,g=>by simp only [RF.app,RF.enc,Jqk r g,List.append_assoc]
theorem Jqh {name:List UInt8} {k:Int} {s:List UInt8} {n:Int} {c:Node} {kids:RF}:(RT.mk k s n c kids).enc name=⟨k,kids.len,name,s,n,c⟩ :: kids.enc:=by rw [RT.enc]
theorem Jqe {nm:List UInt8} {t:RT} {r:RF}:(RF.cons nm t r).enc=t.enc nm ++ r.enc:=by rw [RF.enc]
theorem Jq5:RF.nil.enc=[]:=by rw [RF.enc]
theorem Jrs (t:RT) (nm:List UInt8):1≤(t.enc nm).length:=by
 cases t;rw [Jqh];simp
theorem Jqs:∀ f:RF,f.len≤f.enc.length
 | .nil=>by simp [RF.len]
 | .cons nm t r=>by
  have:=Jrs t nm;have:=Jqs r;rw [Jqe,List.length_append,RF.len];omega
@[simp] theorem Jqc (v:List YRow):(rowL v).length=v.length:=by simp [rowL]
theorem Jsk (n:YRow) (v:List YRow):rowL (n :: v)=n.cells :: rowL v:=rfl
theorem Kdb:rowL []=[]:=rfl
theorem J6q (a b:List YRow):rowL (a ++ b)=rowL a ++ rowL b:=by simp [rowL]
theorem Jq0 {k m:Int} {nm s:List UInt8} {n:Int} {c:Node}:YRow.cells ⟨k,m,nm,s,n,c⟩=[.int .i64 k,.int .i64 m,.str nm,.str s,.int .i64 n,.int .i64 c.kind,.int .i64 c.many,.str c.name,.str c.s,.bool c.neg,.int .i64 c.e]:=rfl
theorem J7n (r:YRow):r.cells=[.int .i64 r.kind,.int .i64 r.many,.str r.name,.str r.s,.int .i64 r.n,.int .i64 r.c.kind,.int .i64 r.c.many,.str r.c.name,.str r.c.s,.bool r.c.neg,.int .i64 r.c.e]:=rfl
theorem Jrx (v:List YRow):∀ q∈rowL v,q.length=11:=by
 intro q hq;obtain ⟨n,_,rfl⟩:=List.mem_map.1 hq;rfl
theorem Ju4 {v:List YRow} {i:Nat} {a b:List YRow} (h:v.drop i=a ++ b):((rowL v).drop i).take a.length=rowL a:=by
 have:(rowL v).drop i=rowL a ++ rowL b:=by rw [← J6q,← h];simp [rowL,List.map_drop]
 rw [this];simp
theorem Jru {v:List YRow} {i:Nat} {n:YRow} {b:List YRow} (h:v.drop i=n :: b):(rowL v)[i]? = some n.cells:=by
 have:v[i]? = some n:=by
  have:=congrArg (·[0]?) h;simpa using this
 simp [rowL,this]
theorem J9o {v:List YRow} {i:Nat} {n:YRow} (h:v[i]? = some n):(rowL v)[i]? = some n.cells:=by simp [rowL,h]
theorem Jwl {v:List YRow} {i:Nat} {a:List YRow} (h:v.drop i=a) (ha:a≠[]):i+a.length=v.length:=by
 have:=congrArg List.length h;simp at this;have:1≤a.length:=by cases a <;> simp_all
 omega
def RF.list:RF→List (List UInt8×RT)
 | .nil=>[]
 | .cons nm t r=>(nm,t) :: r.list
theorem Jqo:∀ f:RF,f.list.length=f.len
 | .nil=>rfl
 | .cons _ _ r=>by simp [RF.list,RF.len,Jqo r]
def RT.kids:RT→RF
 | .mk _ _ _ _ k=>k
def RT.kind:RT→Int
 | .mk k _ _ _ _=>k
def RT.s:RT→List UInt8
 | .mk _ s _ _ _=>s
def RT.n:RT→Int
 | .mk _ _ n _ _=>n
def RT.c:RT→Node
 | .mk _ _ _ c _=>c
abbrev RKT:=List UInt8×RT
theorem Jsd {nm:List UInt8} {t:RT} {r:RF}:(RF.cons nm t r).len=r.len+1:=rfl
theorem J70 (t:RT) (nm:List UInt8):(t.enc nm).length=(t.enc []).length:=by
 cases t;rw [Jqh,Jqh];rfl
def rnxt (L:Nat):List YRow→Nat→Option Nat
 | _,0=>some 0
 | [],_+1=>none
 | n :: r,o+1=>if n.many<0∨(L:Int)<n.many then none else (rnxt L r (o+n.many.toNat)).map (· + 1)
theorem Jyc:∀ (m:Nat) (F:RF),m≤F.len→∃ A B:RF,F=A.app B∧A.len=m
 | 0,F,_=>⟨.nil,F,rfl,rfl⟩
 | m+1,.nil,h=>by simp [RF.len] at h
 | m+1,.cons nm t r,h=>by
  obtain ⟨A,B,h1,h2⟩:=Jyc m r (by simp only [RF.len] at h;omega);exact ⟨.cons nm t A,B,by rw [RF.app,← h1],by simp only [RF.len,h2]⟩
theorem Jym {L:Nat}:∀ {v:List YRow} {o k:Nat},rnxt L v o=some k→∃ F:RF,F.len=o∧v=F.enc ++ v.drop k∧F.enc.length=k
 | v,0,k,h=>by
  simp [rnxt] at h;subst h;exact ⟨.nil,rfl,by simp [Jq5],by simp [Jq5]⟩
 | [],o+1,k,h=>by simp [rnxt] at h
 | n :: r,o+1,k,h=>by
  simp only [rnxt] at h;split at h
  ·cases h
  ·rename_i hn;obtain ⟨k',h',rfl⟩:=Option.map_eq_some_iff.1 h;obtain ⟨F,h1,h2,h3⟩:=Jym h';obtain ⟨A,B,rfl,hA⟩:=Jyc n.many.toNat F omg;rw [Jry] at h1;rw [Jqk] at h2 h3;refine ⟨.cons n.name (.mk n.kind n.s n.n n.c A) B,by simp only [RF.len];omega,?_,?_⟩
   ·rw [Jqe,Jqh,List.drop_succ_cons];have e:(⟨n.kind,A.len,n.name,n.s,n.n,n.c⟩:YRow)=n:=by
     have:(A.len:Int)=n.many:=by omega
     rw [this]
    rw [e];simp only [List.cons_append,List.append_assoc];congr 1;rw [← List.append_assoc];exact h2
   ·rw [Jqe,Jqh,List.length_append,List.length_cons];rw [List.length_append] at h3;omega
theorem J32 {L:Nat}:∀ (n:Nat) (F:RF) (r:List YRow),F.enc.length≤n→F.enc.length≤L→rnxt L (F.enc ++ r) F.len=some F.enc.length
 | _,.nil,r,_,_=>by simp [RF.len,rnxt,Jq5]
 | 0,.cons nm t rest,r,h,_=>by
  have:=Jrs t nm;rw [Jqe,List.length_append] at h;omega
 | n+1,.cons nm (.mk k s g e kids) rest,r,h,hL=>by
  rw [Jqe,Jqh,List.length_append,List.length_cons] at h hL;have hk:=Jqs kids;have ih:=J32 (L:=L) n (kids.app rest) r (by rw [Jqk,List.length_append];omega) (by rw [Jqk,List.length_append];omega);rw [Jqk,Jry,List.append_assoc,List.length_append] at ih;simp only [Jqe,Jqh,List.cons_append,List.append_assoc,RF.len,rnxt];rw [if_neg omg];simp only [Int.toNat_natCast];rw [Nat.add_comm rest.len,ih];simp only [Option.map_some,List.length_cons,List.length_append]
theorem J5i {v:List YRow}:rnxt v.length v 1=some v.length ↔ ∃ nm t,v=RT.enc nm t:=by
 constructor
 ·intro h;obtain ⟨F,h1,h2,h3⟩:=Jym h;rw [List.drop_length,List.append_nil] at h2
  match F,h1,h2 with
  | .cons nm t .nil,_,h2=>exact ⟨nm,t,by rw [h2,Jqe,Jq5,List.append_nil]⟩
 ·rintro ⟨nm,t,rfl⟩;have:=J32 (L:=(t.enc nm).length) (t.enc nm).length (.cons nm t .nil) [] (by rw [Jqe,Jq5];simp) (by rw [Jqe,Jq5];simp);simpa [Jqe,Jq5,RF.len] using this
def Jtd (v:List YRow) (i o:Nat):Int:=match rnxt v.length (v.drop i) o with
 | some k=>((i+k:Nat):Int)
 | none=>-1
theorem J7j (v:List YRow) (i:Nat):Jtd v i 0=i:=by
 unfold Jtd;have:rnxt v.length (v.drop i) 0=some 0:=by cases v.drop i <;> rfl
 rw [this];rfl
theorem Kbn {v:List YRow} {i o:Nat} (h:v.length≤i) (ho:0<o):Jtd v i o = -1:=by
 unfold Jtd;rw [List.drop_eq_nil_of_le h];cases o with
 | zero=>omega
 | succ o=>rfl
theorem Kbd {v:List YRow} {i o:Nat} {n:YRow} (h:v[i]? = some n) (ho:0<o) (hb:n.many<0∨(v.length:Int)<n.many):Jtd v i o = -1:=by
 have hi:=(List.getElem?_eq_some_iff.1 h).1;unfold Jtd;rw [List.drop_eq_getElem_cons hi,(List.getElem?_eq_some_iff.1 h).2];cases o with
 | zero=>omega
 | succ o=>simp only [rnxt];rw [if_pos hb]
theorem J81 {v:List YRow} {i o:Nat} {n:YRow} (h:v[i]? = some n) (hb:¬ (n.many<0∨(v.length:Int)<n.many)):Jtd v i (o+1)=Jtd v (i+1) (o+n.many.toNat):=by
 have hi:=(List.getElem?_eq_some_iff.1 h).1;unfold Jtd;rw [List.drop_eq_getElem_cons hi,(List.getElem?_eq_some_iff.1 h).2];simp only [rnxt];rw [if_neg hb];cases rnxt v.length (v.drop (i+1)) (o+n.many.toNat) with
 | none=>rfl
 | some k=>simp only [Option.map_some];omega
theorem Jsr {v:List YRow} {i:Nat} {n:YRow} (h:v[i]? = some n):(rowL v)[i]? = some [.int .i64 n.kind,.int .i64 n.many,.str n.name,.str n.s,.int .i64 n.n,.int .i64 n.c.kind,.int .i64 n.c.many,.str n.c.name,.str n.c.s,.bool n.c.neg,.int .i64 n.c.e]:=by
 simp [rowL,h,YRow.cells]
theorem Jz2:∀ {a b c d:RF},a.app b=c.app d→a.len=c.len→a=c∧b=d
 | .nil,b,.nil,d,h,_=>⟨rfl,h⟩
 | .nil,_,.cons _ _ _,_,_,h=>by simp [RF.len] at h
 | .cons _ _ _,_,.nil,_,_,h=>by simp [RF.len] at h
 | .cons nm t a,b,.cons nm' t' c,d,h,hl=>by
  rw [RF.app,RF.app] at h;injection h with h1 h2 h3
  obtain ⟨rfl,rfl⟩:=Jz2 (a:=a) (b:=b) (c:=c) (d:=d) h3 (by simpa [RF.len] using hl);exact ⟨by rw [h1,h2],rfl⟩
theorem J7m:∀ (n:Nat) {F G:RF},F.enc.length≤n→F.len=G.len→F.enc=G.enc→F=G
 | _,.nil,.nil,_,_,_=>rfl
 | _,.nil,.cons _ _ _,_,h,_=>by simp [RF.len] at h
 | _,.cons _ _ _,.nil,_,h,_=>by simp [RF.len] at h
 | 0,.cons nm t r,.cons _ _ _,h,_,_=>by
  have:=Jrs t nm;rw [Jqe,List.length_append] at h;omega
 | n+1,.cons nm (.mk k s g e kids) r,.cons nm' (.mk k' s' g' e' kids') r',h,hl,he=>by
  rw [Jqe,Jqh,List.length_append,List.length_cons] at h;rw [Jqe,Jqe,Jqh,Jqh,List.cons_append,List.cons_append] at he;injection he with h1 h2
  injection h1 with g1 g2 g3 g4 g5 g6
  rw [← Jqk,← Jqk] at h2;simp only [RF.len] at hl;have hk:kids.len=kids'.len:=by omega
  have:=J7m n (F:=kids.app r) (G:=kids'.app r') (by rw [Jqk,List.length_append];omega) (by rw [Jry,Jry];omega) h2;obtain ⟨rfl,rfl⟩:=Jz2 this hk;rw [g1,g3,g4,g5,g6]
theorem Kdt {t u:RT} {a b:List UInt8} (h:t.enc a=u.enc b):a=b∧t=u:=by
 have:=J7m (RF.cons a t .nil).enc.length (F:=.cons a t .nil) (G:=.cons b u .nil) (Nat.le_refl _) rfl (by rw [Jqe,Jqe,h]);injection this with h1 h2 _
 exact ⟨h1,h2⟩
theorem J8h {v:List YRow} (h:Jtd v 0 1=v.length):∃ nm t,v=RT.enc nm t:=by
 refine J5i.1 ?_;unfold Jtd at h;rw [List.drop_zero] at h;cases hn:rnxt v.length v 1 with
 | none=>rw [hn] at h;simp at h
 | some k=>rw [hn] at h;simp at h;rw [show k=v.length by omega]
def zeroN:Node:=⟨0,0,[],[],false,0⟩
def Jqr (c:Node):Prop:=c.kind<5∧c.name=[]∧G3 c.kind c.s c.neg c.e c.many
instance (c:Node):Decidable (Jqr c):=by unfold Jqr;infer_instance
def Jrf (n:Int) (c:Node):Prop:=0≤n∧n≤5∧Jqr c
instance (n:Int) (c:Node):Decidable (Jrf n c):=by unfold Jrf;infer_instance
def fldS (s:List UInt8):Prop:=(Je s).2.2=0∧∀ x∈(Je s).1,x.part=false
instance (s:List UInt8):Decidable (fldS s):=by unfold fldS;infer_instance
def Jqv (k:Int) (s:List UInt8) (n:Int) (c:Node) (m:Int):Prop :=
 if k=0 then m=0∧s=[]∧n=0∧c=zeroN
 else if k=1 then 0≤m∧1≤n∧n≤31∧s=[]∧c=zeroN
 else if k=9 then m=0∧s=[]∧Jrf n c
 else if k=2 then 0≤m∧(n=0∨n=1)∧s=[]∧c=zeroN
 else if k=4 then 0≤m∧n=0∧s=[]∧c=zeroN
 else if k=3∨k=5∨k=6 then m=1∧n=0∧s=[]∧c=zeroN
 else if k=7∨k=8 then m=1∧n=0∧c=zeroN∧fldS s
 else False
instance (k:Int) (s:List UInt8) (n:Int) (c:Node) (m:Int):Decidable (Jqv k s n c m):=by unfold Jqv;infer_instance
def J5k (l:List RKT):Prop:=l.Pairwise fun p q=>Op.bytesLess p.1 q.1=true
def Jvl (k:Int) (p:RKT):Prop:=(p.2.kind=9 ↔ k=1)∧(k≠2→p.1=[])∧(k=2→valid p.1=true)
def Jrq (k:Int) (l:List RKT):Prop:=(∀ p∈l,Jvl k p)∧(k=2→J5k l)
def J31 (name:List UInt8):List RKT→Option RT
 | []=>none
 | p :: l=>if p.1=name then some p.2 else J31 name l
def Ju2:RT→List Step→Option RT
 | t,[]=>some t
 | t,x :: p=>if t.kind=2∧x.part=false then (J31 x.name t.kids.list).bind fun u=>Ju2 u p else none
theorem Jyd (t:RT):Ju2 t []=some t:=by cases t;rfl
theorem Jvp {t:RT} {x:Step} {p:List Step}:Ju2 t (x :: p)=if t.kind=2∧x.part=false then (J31 x.name t.kids.list).bind fun u=>Ju2 u p else none:=by rw [Ju2]
def Jxx (t:RT) (p:List Step):Prop:=∃ u,Ju2 t p=some u∧u.kind=1
def Jt1 (k:Int) (s:List UInt8) (l:List RKT):Prop:=(k=7∨k=8)→∀ p,l.head? = some p→Jxx p.2 (Je s).1
mutual
def okR:RT→Prop
 | .mk k s n c kids=>Jqv k s n c kids.len∧Jrq k kids.list∧Jt1 k s kids.list∧okRF kids
def okRF:RF→Prop
 | .nil=>True
 | .cons _ t r=>okR t∧okRF r
end
theorem Jr5 {k:Int} {s:List UInt8} {n:Int} {c:Node} {kids:RF}:okR (.mk k s n c kids) ↔ Jqv k s n c kids.len∧Jrq k kids.list∧Jt1 k s kids.list∧okRF kids:=by rw [okR]
theorem Jrv {nm:List UInt8} {t:RT} {r:RF}:okRF (.cons nm t r) ↔ okR t∧okRF r:=by rw [okRF]
theorem Jsj:okRF .nil:=by rw [okRF];trivial
theorem Jwb:∀ {a b:RF},okRF (a.app b) ↔ okRF a∧okRF b
 | .nil,b=>by simp [RF.app,Jsj]
 | .cons nm t r,b=>by rw [RF.app,Jrv,Jrv,Jwb (a:=r)];exact and_assoc.symm
theorem J3f {nm:List UInt8} {k:Int} {s:List UInt8} {n:Int} {c:Node} {kids r:RF}:okRF (.cons nm (.mk k s n c kids) r) ↔ Jqv k s n c kids.len∧Jrq k kids.list∧Jt1 k s kids.list∧okRF (kids.app r):=by
 rw [Jrv,Jr5,Jwb];constructor
 ·rintro ⟨⟨h1,h2,h3,h4⟩,h5⟩;exact ⟨h1,h2,h3,h4,h5⟩
 ·rintro ⟨h1,h2,h3,h4,h5⟩;exact ⟨⟨h1,h2,h3,h4⟩,h5⟩
theorem Jst:∀ {f:RF},okRF f ↔ ∀ p∈f.list,okR p.2
 | .nil=>by simp [RF.list,Jsj]
 | .cons nm t r=>by rw [Jrv,Jst (f:=r),RF.list,List.forall_mem_cons]
theorem Jv6 (k:Int):Jrq k []:=⟨by simp,fun _=>.nil⟩
theorem J4e {k:Int} {p:RKT} {l:List RKT}:Jrq k (p :: l) ↔ Jvl k p∧(k=2→∀ q,l.head? = some q→Op.bytesLess p.1 q.1=true)∧Jrq k l:=by
 unfold Jrq;constructor
 ·rintro ⟨h1,h2⟩;exact ⟨h1 p List.mem_cons_self,fun hk q hq=>(List.pairwise_cons.1 (h2 hk)).1 q (List.mem_of_head? hq),fun q hq=>h1 q (List.mem_cons_of_mem _ hq),fun hk=>(List.pairwise_cons.1 (h2 hk)).2⟩
 ·rintro ⟨h1,h2,h3,h4⟩;refine ⟨fun q hq=>?_,fun hk=>List.pairwise_cons.2 ⟨fun q hq=>?_,h4 hk⟩⟩
  ·rcases List.mem_cons.1 hq with rfl | hq
   ·exact h1
   ·exact h3 q hq
  ·cases l with
   | nil=>cases hq
   | cons r l =>
    have h7:=h2 hk r rfl;rcases List.mem_cons.1 hq with rfl | hq
    ·exact h7
    ·exact H8 h7 ((List.pairwise_cons.1 (h4 hk)).1 q hq)
def J0q (v:List YRow):Prop:=∃ t,okR t∧t.kind≠9∧v=t.enc []
open Classical in
noncomputable def Jrr (v:List YRow):Bool:=decide (J0q v)
theorem Jr7 {v:List YRow}:Jrr v=true ↔ J0q v:=by unfold Jrr;exact @decide_eq_true_iff _ (Classical.propDecidable _)
theorem Jr8 {v:List YRow} (h:¬ J0q v):false=Jrr v:=by
 cases hb:Jrr v with
 | false=>rfl
 | true=>exact absurd (Jr7.1 hb) h
theorem Jw5 {t:RT}:J0q (t.enc []) ↔ okR t∧t.kind≠9:=by
 constructor
 ·rintro ⟨u,hu,hk,h⟩;obtain ⟨_,rfl⟩:=Kdt h;exact ⟨hu,hk⟩
 ·exact fun h=>⟨t,h.1,h.2,rfl⟩
theorem J5g {v:List YRow} (h:J0q v):Jtd v 0 1=v.length:=by
 obtain ⟨t,_,_,rfl⟩:=h;have:=J5i.2 ⟨[],t,rfl⟩;unfold Jtd;rw [List.drop_zero,this];simp
end Go.LX
set_option maxHeartbeats 2000000
namespace Go.LX
open Go Go.RowKit Go.Proofs
attribute [local irreducible] Al SWP Bi
theorem J2z (v:List YRow) (i:Nat) (nm:List UInt8) (t:RT) (rest:List YRow) (hv:v.length≤1000000) (h:v.drop i=t.enc nm ++ rest):Det cx 110 [.p (.sl (rowL v)),.p (.int .i64 i)] [] (.p (.int .i64 (i+(t.enc nm).length:Nat))) []:=by
 (refine bgo Tryz.func110 ?_;simp only [go_sem,simprocAttr]);have hp:=Jrs t nm;have hb:=Jwl h (fun e=>by have e2:(t.enc nm ++ rest).length=0:=(by rw [e];rfl);rw [List.length_append] at e2;omega);rw [List.length_append] at hb;refine SWP.loop (fun x:Nat×Nat×RF=>⟨Ba 19 [(0,.p (.sl (rowL v))),(1,.p (.int .i64 x.1)),(5,.p (.int .i64 x.2.1))],[]⟩) (fun x=>x.2.1=x.2.2.len∧v.drop x.1=x.2.2.enc ++ rest∧x.1+x.2.2.enc.length=i+(t.enc nm).length) (fun x=>x.2.2.enc.length) (i,1,.cons nm t .nil) Jqb ⟨rfl,by simp [Jqe,Jq5,h],by simp [Jqe,Jq5]⟩ ?_;rintro ⟨j,left,F⟩ ⟨h0,h1,h2⟩;simp only at h0 h1 h2
 match F,h0,h1,h2 with
 | .nil,h0,h1,h2 =>
  rw [Jq5] at h2;simp only [RF.len] at h0;subst h0;(refine lws ?_;simp only [go_sem,simprocAttr]);simp only [List.length_nil] at h2;omega
 | .cons nm' (.mk k s g e kids) r,h0,h1,h2 =>
  rw [Jsd] at h0;rw [Jqe,Jqh] at h1 h2;have hg:=Jru h1;rw [Jq0] at hg;simp only [List.length_cons,List.length_append] at h2;have hl1:=Jqs kids;have hl2:=Jqs r;have w0:IntKind.i64.wrap ((kids.len:Int) - 1)=(kids.len:Int) - 1:=Aa omg omg;have w1:IntKind.i64.wrap ((left:Int)+((kids.len:Int) - 1))=((r.len+kids.len:Nat):Int):=by rw [Aa omg omg];omega
  (refine lws ?_;simp only [go_sem,simprocAttr,wj1 (i:=j) omg,hg,w0,w1]);(repeat' (first | (apply iteI <;> intro h)|(exfalso;omega)))
  ·exact ⟨(j+1,r.len+kids.len,kids.app r),⟨by simp only [Jry];omega,by
    simp only [Jqk];rw [← List.drop_drop,h1];simp,by simp only [Jqk,List.length_append];omega⟩,by simp only [Jqk,Jqe,Jqh,List.length_append,List.length_cons];omega,Jqb⟩
theorem Jxy (c:List PV) (cs:List (List PV)) (h6:∀ q∈c :: cs,q.length=11) (hl:cs.length≤1000000):Det cx 83 [.p (.sl (c :: cs))] [] (.own 900 0 (cs.length+1)) [(900,.row 58 11 (c :: cs))]:=by
 (refine bgoR true [(7,900)] Tryz.func83 ?_;simp only [go_sem,simprocAttr]);(repeat' (first | (refine Jqd ?_) | fail));omega
theorem Jzl (v:List YRow):Det cx 78 [.p (.sl (rowL v))] [] (.fn 109 [900]) [(900,.var 40 [.p (.sl (rowL v))])]:=by
 (refine bgoR true [(1,900)] Tryz.func78 ?_;simp only [go_sem,simprocAttr])
def Jsc:Nat→RF→List (List PV)
 | _,.nil=>[]
 | i,.cons nm t r=>[.int .i64 i,.int .i64 (i+(t.enc nm).length:Nat)] :: Jsc (i+(t.enc nm).length) r
theorem Jty:∀ (i:Nat) (f:RF),(Jsc i f).length=f.len
 | _,.nil=>rfl
 | i,.cons nm t r=>by rw [Jsc,List.length_cons,Jty _ r,Jsd]
theorem Jv3:∀ {i:Nat} {f:RF} {k:Nat} {x:List PV},(Jsc i f)[k]? = some x→∃ (j:Nat) (p:RKT) (b:List YRow),f.list[k]? = some p∧f.enc.drop j=p.2.enc p.1 ++ b∧x=[.int .i64 (i+j:Nat),.int .i64 (i+j+(p.2.enc p.1).length:Nat)]
 | i,.nil,k,x,h=>by simp [Jsc] at h
 | i,.cons nm t r,0,x,h=>by
  simp only [Jsc,List.getElem?_cons_zero,Option.some.injEq] at h;exact ⟨0,(nm,t),r.enc,rfl,by rw [List.drop_zero,Jqe],by rw [← h];rfl⟩
 | i,.cons nm t r,k+1,x,h=>by
  simp only [Jsc,List.getElem?_cons_succ] at h;obtain ⟨j,p,b,h1,h2,h3⟩:=Jv3 h;refine ⟨(t.enc nm).length+j,p,b,h1,?_,?_⟩
  ·rw [Jqe,← List.drop_drop,List.drop_left,h2]
  ·rw [h3];simp only [Nat.add_assoc]
theorem Jvv {i:Nat} {f:RF} {x:List PV} (h:x∈Jsc i f):x.length=2:=by
 obtain ⟨k,hk⟩:=List.getElem?_of_mem h;obtain ⟨j,p,b,_,_,rfl⟩:=Jv3 hk;rfl
theorem Jzk (nm:List UInt8) (kd:Int) (s:List UInt8) (g:Int) (e:Node) (kids:RF) (hv:kids.enc.length≤999999):Tb cx 109 [.eptr [.sl (rowL ((RT.mk kd s g e kids).enc nm))]] (if kd=1 then [] else Jsc 1 kids):=by
 have hl:=Jqs kids;generalize hvv:(RT.mk kd s g e kids).enc nm=v;have h0:v.drop 0=⟨kd,kids.len,nm,s,g,e⟩ :: kids.enc:=by rw [← hvv,Jqh];rfl
 have hg0:=Jru h0;rw [Jq0] at hg0;have hvl:v.length=kids.enc.length+1:=by rw [← hvv,Jqh];rfl
 by_cases hk1:kd=1
 ·subst hk1;rw [if_pos rfl];(refine Jtg (X:=cx) Tryz.func109 krf rfl krf (by simp only [List.length_cons,List.length_nil,Tryz.ntmps109];decide) fun l=>?_;refine N9 _ _ _ _ ?_;simp only [Tryz.ntmps109,go_sem,simprocAttr,hg0]);refine JWP.loop (fun x:Nat×Nat×RF=>(some 0,⟨Ba 28 [(0,.yld l),(1,.eptr [.sl (rowL v)]),(3,.p (.int .i64 x.2.1)),(8,.p (.int .i64 kids.len)),(9,.p (.int .i64 x.1))],[]⟩)) (fun x=>x.1+x.2.2.len=kids.len∧v.drop x.2.1=x.2.2.enc∧x.2.1+x.2.2.enc.length=v.length) (fun x=>x.2.2.enc.length) (0,1,kids) rfl Jqb ⟨by simp,by rw [← hvv,Jqh];rfl,by simp only;omega⟩ ?_;rintro ⟨k,j,F⟩ ⟨h1,h2,h3⟩;simp only at h1 h2 h3 ⊢
  match F,h1,h2,h3 with
  | .nil,h1,h2,h3 =>
   simp only [RF.len] at h1;(refine N9 _ _ _ _ ?_;simp only [go_sem,simprocAttr]);(repeat' (first | (apply iteI <;> intro h)|(exfalso;omega)));simp
  | .cons nm' t' r,h1,h2,h3 =>
   rw [Jsd] at h1;rw [Jqe] at h2 h3;rw [List.length_append] at h3;have hp:=Jrs t' nm';(refine N9 _ _ _ _ ?_;simp only [go_sem,simprocAttr,wj1 (i:=k) omg]);(repeat' (first | (apply iteI <;> intro h)|((refine Jqa (J2z v j nm' t' r.enc omg h2) ?_);simp only [go_sem,simprocAttr,hg0,wj1 (i:=k) omg])|(exfalso;omega)))
   ·exact ⟨(k+1,j+(t'.enc nm').length,r),⟨by simp only;omega,by simp only;rw [← List.drop_drop,h2,List.drop_left],by simp only;omega⟩,by simp only [Jqe,List.length_append];omega,Jqb⟩
   all_goals omega
 ·rw [if_neg hk1];have hk2:(kd=1)=False:=eq_false hk1;(refine Jtg (X:=cx) Tryz.func109 krf rfl krf (by simp only [List.length_cons,List.length_nil,Tryz.ntmps109];decide) fun l=>?_;refine N9 _ _ _ _ ?_;simp only [Tryz.ntmps109,go_sem,simprocAttr,hg0,hk2]);refine JWP.loop (fun x:Nat×Nat×RF=>(some x.1,⟨Ba 28 [(0,.yld l),(1,.eptr [.sl (rowL v)]),(3,.p (.int .i64 x.2.1)),(8,.p (.int .i64 kids.len)),(9,.p (.int .i64 x.1))],[]⟩)) (fun x=>x.1+x.2.2.len=kids.len∧v.drop x.2.1=x.2.2.enc∧x.2.1+x.2.2.enc.length=v.length∧(Jsc 1 kids).drop x.1=Jsc x.2.1 x.2.2) (fun x=>x.2.2.enc.length) (0,1,kids) rfl Jqb ⟨by simp,by rw [← hvv,Jqh];rfl,by simp only;omega,rfl⟩ ?_;rintro ⟨k,j,F⟩ ⟨h1,h2,h3,h4⟩;simp only at h1 h2 h3 h4 ⊢
  match F,h1,h2,h3,h4 with
  | .nil,h1,h2,h3,h4 =>
   simp only [RF.len] at h1;(refine N9 _ _ _ _ ?_;simp only [go_sem,simprocAttr]);(repeat' (first | (apply iteI <;> intro h)|(exfalso;omega)));rw [Jty];exact .inl (by congr 1)
  | .cons nm' t' r,h1,h2,h3,h4 =>
   rw [Jsd] at h1;rw [Jqe] at h2 h3;rw [List.length_append] at h3;have hp:=Jrs t' nm';(refine N9 _ _ _ _ ?_;simp only [go_sem,simprocAttr,wj1 (i:=k) omg]);(repeat' (first | (apply iteI <;> intro h)|((refine Jqa (J2z v j nm' t' r.enc omg h2) ?_);simp only [go_sem,simprocAttr,hg0,hk2,wj1 (i:=k) omg])|(exfalso;omega)))
   ·refine ⟨?_,⟨(k+1,j+(t'.enc nm').length,r),⟨by simp only;omega,by simp only;rw [← List.drop_drop,h2,List.drop_left],by simp only;omega,by simp only;rw [← List.drop_drop,h4];rfl⟩,by simp only [Jqe,List.length_append];omega,rfl,Jqb⟩,.inr trivial⟩;have:=congrArg (·[0]?) h4;simp only [List.getElem?_drop,Nat.add_zero] at this;rw [this];rfl
   all_goals omega
def Jra (l:List RKT):List (List PV):=l.map fun p=>[.sl (rowL (p.2.enc []))]
@[simp] theorem tpartL_nil:Jra []=[]:=rfl
theorem Jy2 {l:List RKT} {k:Nat} {p:List UInt8×RT} (h:l[k]? = some p):Jra (l.take (k+1))=Jra (l.take k) ++ [[.sl (rowL (p.2.enc []))]]:=by
 rw [List.take_add_one,h];simp [Jra]
theorem Jq3 (l:List RKT):(Jra l).length=l.length:=by simp [Jra]
theorem Jui {l:List RKT} {i:Nat} {p:RKT} (h:l[i]? = some p):(Jra l)[i]? = some [.sl (rowL (p.2.enc []))]:=by simp [Jra,h]
theorem J0n (nm:List UInt8) (kd:Int) (s:List UInt8) (g:Int) (e:Node) (kids:RF) (hv:kids.enc.length≤999999) (hk1:kd≠1):Det cx 39 [.p (.sl (rowL ((RT.mk kd s g e kids).enc nm)))] [] (.p (.sl (Jra kids.list))) []:=by
 have hie:=Jzk nm kd s g e kids hv;rw [if_neg hk1] at hie;generalize hvv:(RT.mk kd s g e kids).enc nm=v at hie ⊢;have hvl:v.length=kids.enc.length+1:=by rw [← hvv,Jqh];rfl
 have hd1:v.drop 1=kids.enc:=by rw [← hvv,Jqh];rfl
 (refine bgo Tryz.func39 ?_;simp only [go_sem,simprocAttr]);(repeat' (first | ((refine Jqa (Jzl _) ?_);simp only [go_sem,simprocAttr]) | fail));(refine SWP.range (Jsc 1 kids) 24 [(22,900)] sm _ _ _ _ _ (fun k R=>R=if k=0 then [(1000,.var 54 [.p .snil]),(1001,.var 40 [.p (.sl (rowL v))])] else [(900,.row 40 1 (Jra (kids.list.take k))),(1000,.var 54 [.own 900 0 k]),(1001,.var 40 [.p (.sl (rowL v))])]) (fun _ _=>False) (by rfl) (by rfl) (by rfl) (hie) (by simp only [go_sem,simprocAttr] <;> rfl) (by first | rfl | simp [Cg]) sm ?hps (by simp only [go_sem,simprocAttr] <;> rfl) (by simp only [go_sem,simprocAttr] <;> rfl) (by simp only [go_sem,simprocAttr] <;> rfl) ?h0 ?hkI ?hkS ?hSn ?round ?done ?stop)
 case hps=>exact fun x hx=>Jvv hx
 case h0=>rfl
 case hkI=>rintro k R rfl;split <;> simp [Hg,findKey]
 case hkS=>exact fun _ _ h=>h.elim
 case hSn=>exact fun _ h=>h
 case stop=>exact fun _ _ h=>h.elim
 case round =>
  rintro k x R l hx rfl;obtain ⟨j,p,b,hp,hd,rfl⟩:=Jv3 hx;obtain ⟨nm',⟨k',s',g',e',kids'⟩⟩:=p;simp only at hd;have hdv:v.drop (1+j)=(RT.mk k' s' g' e' kids').enc nm' ++ b:=by rw [← List.drop_drop,hd1,hd]
  have hs:=Ju4 hdv;have hel:((RT.mk k' s' g' e' kids').enc nm').length=kids'.enc.length+1:=by rw [Jqh];rfl
  have hs':((rowL v).drop (1+j)).take (1+j+((RT.mk k' s' g' e' kids').enc nm').length - (1+j))=[.int .i64 k',.int .i64 kids'.len,.str nm',.str s',.int .i64 g',.int .i64 e'.kind,.int .i64 e'.many,.str e'.name,.str e'.s,.bool e'.neg,.int .i64 e'.e] :: rowL kids'.enc:=by
   rw [Nat.add_sub_cancel_left,hs,Jqh,Jsk,Jq0]
  have h6:∀ q∈[.int .i64 k',.int .i64 kids'.len,.str nm',.str s',.int .i64 g',.int .i64 e'.kind,.int .i64 e'.many,.str e'.name,.str e'.s,.bool e'.neg,.int .i64 e'.e] :: rowL kids'.enc,q.length=11:=fun q hq=>Jrx ((RT.mk k' s' g' e' kids').enc nm') q (by rw [Jqh];exact hq)
  have htk:(rowL kids'.enc).take kids'.enc.length=rowL kids'.enc:=List.take_of_length_le sm;have hlen:=congrArg List.length hdv;rw [List.length_append,List.length_drop] at hlen;have hpe:Jra (kids.list.take (k+1))=Jra (kids.list.take k) ++ [[.sl (rowL ((RT.mk k' s' g' e' kids').enc []))]]:=Jy2 hp;rw [Jqh,Jsk,Jq0] at hpe;by_cases hk:k=0
  ·subst hk;rw [if_pos rfl];simp only [go_sem,simprocAttr];(refine lws ?_;simp only [go_sem,simprocAttr,hs',Jqc]);(repeat' (first | (refine And.intro (Jrx _) ?_)|(refine Jqd ?_)|((refine Jqa (Jxy _ _ h6 (by rw [Jqc];omega)) ?_);simp only [go_sem,simprocAttr,htk,Nat.le_refl,Jqc]) | fail));refine ⟨by simp,_,rfl,?_⟩;rw [hpe];exact (Jqj (by simp only [Ar]) (by simp (disch:=omega) [Az,A3,Aw,Am,Af,Ai,Au,Aa]) (by simp [Ay]))
  ·rw [if_neg hk];have hkl:=(List.getElem?_eq_some_iff.1 hp).1;rw [Jqo] at hkl;have hll:=Jqs kids;simp only [go_sem,simprocAttr];(refine lws ?_;simp only [go_sem,simprocAttr,hs',Jqc]);(repeat' (first | (refine And.intro (Jrx _) ?_)|(refine Jqd ?_)|((refine Jqa (Jxy _ _ h6 (by rw [Jqc];omega)) ?_);simp only [go_sem,simprocAttr,htk,Nat.le_refl,Jqc]) | fail));refine ⟨by simp,by rw [Jq3,List.length_take,Jqo];omega,by omega,by omega,_,rfl,?_⟩;rw [hpe];exact (Jqj (by simp only [Ar]) (by simp (disch:=omega) [Az,A3,Aw,Am,Af,Ai,Au,Aa]) (by simp [Ay]))
 case done =>
  rintro R rfl;rw [Jty];have hll:=Jqo kids;by_cases hk:kids.len=0
  ·rw [if_pos hk];have hnil:kids.list=[]:=List.eq_nil_of_length_eq_zero omg;rw [hnil];simp only [go_sem,simprocAttr];refine ⟨⟨Ba 24 [(3,.ptr 3 0 0)],[(3,.var 54 [.p (.sl [])])]⟩,Jqb,?_⟩;simp only [go_sem,simprocAttr];rfl
  ·rw [if_neg hk];have htk:kids.list.take kids.len=kids.list:=List.take_of_length_le omg;rw [htk];have hpl:(kids.len≤(Jra kids.list).length)=True:=eq_true (by rw [Jq3];omega);have hpt:(Jra kids.list).take kids.len=Jra kids.list:=List.take_of_length_le (by rw [Jq3];omega);simp only [go_sem,simprocAttr];refine ⟨_,St.Le.refl _,?_⟩;simp only [go_sem,simprocAttr,hpl,hpt]
theorem J3k (nm:List UInt8) (s:List UInt8) (g:Int) (e:Node) (kids:RF) (hv:kids.enc.length≤999999):Det cx 39 [.p (.sl (rowL ((RT.mk 1 s g e kids).enc nm)))] [] (.p (.sl [])) []:=by
 have hie:=Jzk nm 1 s g e kids hv;rw [if_pos rfl] at hie;generalize hvv:(RT.mk 1 s g e kids).enc nm=v at hie ⊢;(refine bgo Tryz.func39 ?_;simp only [go_sem,simprocAttr]);(repeat' (first | ((refine Jqa (Jzl _) ?_);simp only [go_sem,simprocAttr]) | fail));(refine SWP.range ([]) 24 [(22,900)] sm _ _ _ _ _ (fun k R=>R=[(1000,.var 54 [.p .snil]),(1001,.var 40 [.p (.sl (rowL v))])]) (fun _ _=>False) (by rfl) (by rfl) (by rfl) (hie) (by simp only [go_sem,simprocAttr] <;> rfl) (by first | rfl | simp [Cg]) sm ?hps (by simp only [go_sem,simprocAttr] <;> rfl) (by simp only [go_sem,simprocAttr] <;> rfl) (by simp only [go_sem,simprocAttr] <;> rfl) ?h0 ?hkI ?hkS ?hSn ?round ?done ?stop)
 case hps=>exact fun x hx=>by cases hx
 case h0=>rfl
 case hkI=>rintro k R rfl;simp [Hg,findKey]
 case hkS=>exact fun _ _ h=>h.elim
 case hSn=>exact fun _ h=>h
 case stop=>exact fun _ _ h=>h.elim
 case round =>
  rintro k x R l hx rfl;simp at hx
 case done =>
  rintro R rfl;simp only [go_sem,simprocAttr];refine ⟨⟨Ba 24 [(3,.ptr 3 0 0)],[(3,.var 54 [.p (.sl [])])]⟩,Jqb,?_⟩;simp only [go_sem,simprocAttr]
def Jq9 (l:List (Int×Node)):List (List PV):=l.map fun a=>[.int .i64 a.1,.int .i64 a.2.kind,.int .i64 a.2.many,.str a.2.name,.str a.2.s,.bool a.2.neg,.int .i64 a.2.e]
def Jqf (l:List RKT):List (Int×Node):=l.map fun p=>(p.2.n,p.2.c)
@[simp] theorem Jqm (l:List (Int×Node)):(Jq9 l).length=l.length:=by simp [Jq9]
theorem Jt9 {l:List (Int×Node)} {i:Nat} {a:Int×Node} (h:l[i]? = some a):(Jq9 l)[i]? = some [.int .i64 a.1,.int .i64 a.2.kind,.int .i64 a.2.many,.str a.2.name,.str a.2.s,.bool a.2.neg,.int .i64 a.2.e]:=by simp [Jq9,h]
theorem Jxe {l:List (Int×Node)} {i:Nat} {a:Int×Node} (h:l[i]? = some a):Jq9 (l.take (i+1))=Jq9 (l.take i) ++ [[.int .i64 a.1,.int .i64 a.2.kind,.int .i64 a.2.many,.str a.2.name,.str a.2.s,.bool a.2.neg,.int .i64 a.2.e]]:=by
 rw [List.take_add_one,h];simp [Jq9]
def Jwg (l:List RKT):Prop:=∀ p∈l,p.2.kids=.nil
theorem Jx2:∀ {f:RF},Jwg f.list→f.enc.length=f.len
 | .nil,_=>by rw [Jq5];rfl
 | .cons nm (.mk k s n c kids) r,h=>by
  have h1:kids=.nil:=h _ List.mem_cons_self;subst h1;have h2:=Jx2 (f:=r) fun p hp=>h p (List.mem_cons_of_mem _ hp)
  rw [Jqe,Jqh,Jq5,List.length_append,h2,Jsd];simp;omega
theorem Jxu:∀ {f:RF} {i:Nat} {p:RKT},Jwg f.list→f.list[i]? = some p→f.enc[i]? = some ⟨p.2.kind,0,p.1,p.2.s,p.2.n,p.2.c⟩
 | .nil,i,p,_,h=>by simp [RF.list] at h
 | .cons nm (.mk k s n c kids) r,i,p,h,hp=>by
  have h1:kids=.nil:=h _ List.mem_cons_self;subst h1;rw [Jqe,Jqh,Jq5];cases i with
  | zero =>
   simp only [RF.list,List.getElem?_cons_zero,Option.some.injEq] at hp;subst hp;rfl
  | succ i =>
   simp only [RF.list,List.getElem?_cons_succ] at hp;have:=Jxu (f:=r) (fun p hp=>h p (List.mem_cons_of_mem _ hp)) hp;simpa using this
theorem J7o (nm:List UInt8) (kd:Int) (s:List UInt8) (g:Int) (e:Node) (kids:RF) (hv:kids.enc.length≤999999) (hk:Jwg kids.list):Det cx 76 [.p (.sl (rowL ((RT.mk kd s g e kids).enc nm))),.p (.int .i64 0)] [] (.p (.sl (Jq9 (Jqf kids.list)))) []:=by
 have hll:=Jqo kids;have hel:=Jx2 hk;generalize hvv:(RT.mk kd s g e kids).enc nm=v;have h0:v.drop 0=⟨kd,kids.len,nm,s,g,e⟩ :: kids.enc:=by rw [← hvv,Jqh];rfl
 have hg0:=Jru h0;rw [Jq0] at hg0;have hvl:v.length=kids.enc.length+1:=by rw [← hvv,Jqh];rfl
 have hd:((rowL v).drop 1).take (1+kids.len - 1)=rowL kids.enc:=by
  rw [← hvv,Jqh,Jsk,List.drop_succ_cons,List.drop_zero,List.take_of_length_le (by rw [Jqc];omega)]
 have hal:(Jqf kids.list).length=kids.len:=by simp [Jqf,hll]
 have w1:IntKind.i64.wrap (1+(kids.len:Int))=((1+kids.len:Nat):Int):=by rw [Aa omg omg];omega
 have w0:IntKind.i64.wrap 1=1:=by decide
 have w2:(((1+kids.len:Nat):Int)).toNat=1+kids.len:=Int.toNat_natCast _;(refine bgo Tryz.func76 ?_;simp only [go_sem,simprocAttr,hg0,hd,Jqc,w0,w1,w2,hel]);(repeat' (first | (refine And.intro (Jrx _) ?_)|(refine Jqd ?_) | fail));refine SWP.loop (fun i:Nat=>if i=0 then ⟨Ba 35 [(5,.p .snil),(19,.p (.sl (rowL kids.enc))),(20,.p (.int .i64 kids.len)),(21,.p (.int .i64 0))],[]⟩ else ⟨Ba 35 [(5,.own 32 0 i),(19,.p (.sl (rowL kids.enc))),(20,.p (.int .i64 kids.len)),(21,.p (.int .i64 i))],[(32,.row 49 7 (Jq9 ((Jqf kids.list).take i)))]⟩) (fun i=>i≤kids.len) (fun i=>kids.len - i) 0 (by rw [if_pos rfl];exact Jqb) (Nat.zero_le _) ?_;rintro i hi;by_cases hlt:¬ i<kids.len
 ·have hi2:i=kids.len:=by omega
  subst hi2;by_cases hz:kids.len=0
  ·rw [if_pos hz];have hk0:Jqf kids.list=[]:=List.eq_nil_of_length_eq_zero omg;rw [hk0,hz];refine Jqn (show St.Le _ ⟨Ba 35 [(5,.p (.sl [])),(20,.p (.int .i64 0)),(21,.p (.int .i64 0))],[]⟩ from Jqb) ?_;(refine lws ?_;simp only [go_sem,simprocAttr]);rfl
  ·rw [if_neg hz];have c1:((kids.len:Int)<(kids.len:Int))=False:=eq_false omg;have hpl:(kids.len≤(Jqf kids.list).length)=True:=eq_true omg;have ht1:(Jqf kids.list).take kids.len=Jqf kids.list:=List.take_of_length_le omg;have ht2:(Jq9 (Jqf kids.list)).take kids.len=Jq9 (Jqf kids.list):=List.take_of_length_le (by rw [Jqm];omega);(refine lws ?_;simp only [go_sem,simprocAttr,c1,hpl,ht1,ht2,Jqm])
   skip
 ·have hlt:=Decidable.not_not.1 hlt;obtain ⟨p,hp⟩:∃ p,kids.list[i]? = some p:=⟨_,List.getElem?_eq_getElem omg⟩
  have hgi:=J9o (Jxu hk hp);rw [Jq0] at hgi;have hga:(Jqf kids.list)[i]? = some (p.2.n,p.2.c):=by simp [Jqf,hp]
  have htk:=Jxe hga;have hpl:(Jq9 ((Jqf kids.list).take i)).length=i:=by rw [Jqm,List.length_take];omega
  have c1:((i:Int)<(kids.len:Int))=True:=eq_true omg;by_cases hz:i=0
  ·subst hz;rw [if_pos rfl];have c2:((0:Int)<(kids.len:Int))=True:=eq_true omg;have hgi':(rowL kids.enc)[0]? = _:=hgi;(refine lws ?_;simp only [go_sem,simprocAttr,w0,c2,hgi',w0]);refine ⟨by simp,1,by omega,by omega,?_⟩;rw [htk,if_neg omg,show Jq9 (List.take 0 (Jqf kids.list))=[] from rfl,List.nil_append];exact Jqb
  ·rw [if_neg hz];(refine lws ?_;simp only [go_sem,simprocAttr,c1,hgi,hpl,wj1 (i:=i) omg]);refine ⟨by simp,by omega,by omega,i+1,by omega,by omega,?_⟩;rw [htk,if_neg omg];exact Jqb
theorem Jxm (nm:List UInt8) (s:List UInt8) (g:Int) (e:Node) (kids:RF) (hv:kids.enc.length≤999999) (hk:Jwg kids.list):Det cx 32 [.p (.sl (rowL ((RT.mk 1 s g e kids).enc nm)))] [] (.p (.sl (Jq9 (Jqf kids.list)))) []:=by
 have h0:((RT.mk 1 s g e kids).enc nm).drop 0=⟨1,kids.len,nm,s,g,e⟩ :: kids.enc:=by rw [Jqh];rfl
 have hg0:=Jru h0;rw [Jq0] at hg0;(refine bgo Tryz.func32 ?_;simp only [go_sem,simprocAttr,hg0]);(repeat' (first | ((refine Jqa (J7o nm 1 s g e kids hv hk) ?_);simp only [go_sem,simprocAttr]) | fail))
end Go.LX
namespace Go.LX
def Jqt (s:List UInt8):List UInt8:=s.dropWhile (· == 48)
def Jqz (s:List UInt8):List UInt8:=(s.reverse.dropWhile (· == 48)).reverse
theorem Jv9 {c:UInt8}:c.toNat=48 ↔ c=48:=by
 constructor
 ·intro h;exact UInt8.toNat_inj.1 (by simpa using h)
 ·intro h;subst h;rfl
theorem Jws (c:UInt8) (l:List UInt8):at_ (c :: l) 0=c.toNat:=by simp [at_]
theorem J4h (l:List UInt8) (c:UInt8):at_ (l ++ [c]) l.length=c.toNat:=by simp [at_,List.getD_eq_getElem?_getD]
theorem Jv5 {u:List UInt8} (h:at_ u 0≠48):Jqt u=u:=by
 cases u with
 | nil=>rfl
 | cons c l =>
  rw [Jws] at h;have:c≠48:=fun hc=>h (Jv9.2 hc)
  simp [Jqt,List.dropWhile_cons,this]
theorem J16 (u:List UInt8):(Jqt u).length≤u.length:=by
 exact (List.dropWhile_sublist _).length_le
theorem Jy6 (u:List UInt8) (h:0<(Jqt u).length):at_ (Jqt u) 0≠48:=by
 induction u with
 | nil=>simp [Jqt] at h
 | cons c l ih =>
  by_cases hc:c=48
  ·subst hc;have:Jqt (48 :: l)=Jqt l:=by simp [Jqt]
   rw [this] at h ⊢;exact ih h
  ·have:Jqt (c :: l)=c :: l:=by simp [Jqt,List.dropWhile_cons,hc]
   rw [this,Jws];exact fun hh=>hc (Jv9.1 hh)
theorem J9l {u:List UInt8} (h:0<u.length):∃ l c,u=l ++ [c]:=by
 have hne:u≠[]:=by intro hu;subst hu;simp at h
 exact ⟨u.dropLast,u.getLast hne,(List.dropLast_concat_getLast hne).symm⟩
theorem Jy0 (l:List UInt8) (c:UInt8):Jqz (l ++ [c])=if c=48 then Jqz l else l ++ [c]:=by
 simp only [Jqz,List.reverse_append,List.reverse_cons,List.reverse_nil,List.nil_append,List.cons_append,List.dropWhile_cons];by_cases h:c=48
 ·simp [h]
 ·simp [h]
theorem Jyl {u:List UInt8} (h0:0<u.length) (h:at_ u (u.length - 1)=48):Jqz (u.take (u.length - 1))=Jqz u:=by
 obtain ⟨l,c,rfl⟩:=J9l h0;have e:(l ++ [c]).length - 1=l.length:=by simp
 rw [e] at h ⊢;rw [J4h,Jv9] at h;rw [Jy0,if_pos h];simp
theorem Jtz {u:List UInt8} (h0:0<u.length) (h:at_ u (u.length - 1)≠48):Jqz u=u:=by
 obtain ⟨l,c,rfl⟩:=J9l h0;have e:(l ++ [c]).length - 1=l.length:=by simp
 rw [e,J4h] at h;rw [Jy0,if_neg (fun hc=>h (Jv9.2 hc))]
theorem Jz8 (u:List UInt8):(Jqz u).length≤u.length:=by
 have:=(List.dropWhile_sublist (l:=u.reverse) (fun x=>x == 48)).length_le;simpa [Jqz] using this
theorem Kax {u:List UInt8} {n i:Nat} (h:i<n):at_ (u.take n) i=at_ u i:=by
 simp [at_,List.getD_eq_getElem?_getD,List.getElem?_take,h]
theorem J0r:∀ (n:Nat) (u:List UInt8),u.length=n→0<u.length→at_ u 0≠48→0<(Jqz u).length
 | 0,u,hn,h0,_=>by omega
 | n+1,u,hn,h0,h=>by
  by_cases hl:at_ u (u.length - 1)=48
  ·have hn0:1<u.length:=by
    by_cases h1:u.length=1
    ·rw [h1] at hl;exact absurd hl h
    ·omega
   rw [← Jyl h0 hl];exact J0r n _ (by simp;omega) (by simp;omega) (by rw [Kax omg];exact h)
  ·rw [Jtz h0 hl];exact h0
theorem Kff {s:List UInt8} (h0:0<s.length):Jqt (Jqz s)=s ↔ at_ s 0≠48∧at_ s (s.length - 1)≠48:=by
 constructor
 ·intro h;have hl:at_ s (s.length - 1)≠48:=by
   intro hc;have h1:=J16 (Jqz s);rw [h,← Jyl h0 hc] at h1;have h2:=Jz8 (s.take (s.length - 1));simp only [List.length_take] at h2;omega
  rw [Jtz h0 hl] at h;have:=Jy6 s (by rw [h];exact h0);rw [h] at this;exact ⟨this,hl⟩
 ·rintro ⟨h1,h2⟩;rw [Jtz h0 h2,Jv5 h1]
end Go.LX
