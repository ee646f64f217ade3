/-
  DERIVED: THE SHELF's CONTRACTS AT THIS DUMP, IN PLAIN WORDS (tools/lay-plain.mjs out of 'LxShEN.lean', which tools/lay-shelf.mjs wrote): THE SAME DECLARATIONS UNDER THE SAME NAMES: 'import', 'namespace', 'open', 'def', 'theorem' AND NOTHING ELSE: no command of the shelf's: FOR A HAND-IN. Each laying: the table of numbers ('.._ren') and one theorem, a field a fact of the dump's own or the kernel's comparison; each contract: ONE APPLICATION.
-/
import Derived.Shelf.Strings.Builder1
import Derived.Shelf.Strings.Builder2
import Derived.Shelf.Strings.OnBuilder
import Derived.Shelf.Strings.Trim
import Derived.Shelf.Small.Utf8
import Derived.Shelf.Small.Strs
import Derived.Shelf.Small.Wraps
import Derived.Shelf.Strings.BuilderF
import Derived.Shelf.Strconv.Atoi
import Derived.Shelf.Strconv.Itoa0
import Derived.Shelf.Strconv.Itoa1
import Derived.Shelf.LaysM
import Derived.Shelf.Strconv.Itoa2
import Derived.Shelf.Strconv.Itoa3
import Derived.Shelf.Strconv.Itoa4
import Derived.Shelf.Strconv.AtoiErrFast
import Derived.Shelf.Strconv.ParseIntEmpty
import Derived.Shelf.Strconv.AtoiFail
import Derived.Shelf.Strconv.Clone
import Derived.Shelf.Strconv.SyntaxError
import Derived.Shelf.LaysC
import Derived.Shelf.Strconv.ToError
import Derived.Shelf.Strconv.Lower
import Derived.Shelf.Strconv.ParseUint10
import Derived.Shelf.Strconv.ParseUint10Empty
import Derived.Shelf.Strconv.ParseUint10Any
import Derived.Shelf.Strconv.ParseInt10
import Derived.Shelf.Strconv.AtoiLong
import Derived.Shelf.Strconv.AtoiInnerAll
import Derived.Shelf.Strconv.RangeError
import Derived.Shelf.Strconv.ToErrorRange
import Derived.Shelf.Strconv.AtoiAll
import Derived.Shelf.Strconv.ErrVarAll
import Derived.Shelf.Strconv.ParseUintEmpty
import Derived.Shelf.Strings.Search1
import Derived.Shelf.GgClosure.StringsIndexFunc
import Derived.Shelf.GgClosure.StringsTrimFunc
import Derived.Shelf.Strings.Prefix
import Derived.Shelf.Unicode.Decode
import Derived.Shelf.Strings.Runes
import Derived.Shelf.Strings.IndexAny
import Derived.Shelf.Strings.AsciiSet
import Derived.Shelf.Strings.IndexAnyAll
import Derived.Shelf.Bits.Mul64
import Derived.Shelf.Strings.Repeat
import Derived.Shelf.Unicode.DecodeSlow
import Derived.Shelf.Unicode.DecodeAny
import Derived.Shelf.Unicode.DecodeLast
import Derived.Shelf.Strings.FuncGrows
import Derived.Ground.Names2Prog
import Derived.Shelf.Slices.SearchI
import Derived.Test.YtpdaccjebbbbaaaGreatDoorProg
import Derived.Test.YtpdaccjebbbbaaaGreatDoorLxU
import Derived.Test.YtpdaccjebbbbaaaGreatDoorLxP
import Derived.Test.YtpdaccjebbbbaaaGreatDoorLxW
import Derived.Test.YtpdaccjebbbbaaaGreatDoorLxQ
import Derived.Test.YtpdaccjebbbbaaaGreatDoorLxS
import Derived.Test.YtpdaccjebbbbaaaGreatDoorLxT
import Derived.Test.YtpdaccjebbbbaaaGreatDoorLxV
import Derived.Test.YtpdaccjebbbbaaaGreatDoorLxO
set_option linter.unusedSimpArgs false
set_option linter.unusedVariables false
set_option linter.unusedSectionVars false
set_option linter.unnecessarySimpa false
namespace Go.Proofs
open Go.Shelf
def Tryz_lays156_renX:Go.Shelf.Ren:=⟨fun | 156=>30 | 165=>43 | 166=>44 | 169=>45 | 240=>59 | 241=>60 | 276=>86 | 277=>87 | n=>n,fun | 31=>26 | 9=>9 | 3=>3 | 4=>4 | 0=>0 | 20=>20 | 72=>79 | 76=>83 | 70=>76 | 37=>77 | 75=>82 | 127=>102 | 164=>131 | 5=>5 | 80=>85 | n=>n,fun | n=>n⟩
theorem Jvj:Go.Proofs.Lays.n156 Tryz.prog Tryz_lays156_renX:={
 mixed:=by kernel_rfl
 f156:=Tryz.func30.trans (congrArg some (by kernel_rfl))
 f165:=Tryz.func43.trans (congrArg some (by kernel_rfl))
 f166:=Tryz.func44.trans (congrArg some (by kernel_rfl))
 f169:=Tryz.func45.trans (congrArg some (by kernel_rfl))
 f240:=Tryz.func59.trans (congrArg some (by kernel_rfl))
 f241:=Tryz.func60.trans (congrArg some (by kernel_rfl))
 f276:=Tryz.func86.trans (congrArg some (by kernel_rfl))
 f277:=Tryz.func87.trans (congrArg some (by kernel_rfl))
 t0:=Tryz.underlying0
 a0:=Tryz.isAgg0
 z0:=Tryz.sizeOf0
 v0:=Tryz.zeroValue0
 t3:=Tryz.underlying3
 a3:=Tryz.isAgg3
 z3:=Tryz.sizeOf3
 v3:=Tryz.zeroValue3
 t4:=Tryz.underlying4
 a4:=Tryz.isAgg4
 z4:=Tryz.sizeOf4
 v4:=Tryz.zeroValue4
 t9:=Tryz.underlying9
 a9:=Tryz.isAgg9
 z9:=Tryz.sizeOf9
 v9:=Tryz.zeroValue9
 t20:=Tryz.underlying20
 a20:=Tryz.isAgg20
 z20:=Tryz.sizeOf20
 v20:=Tryz.zeroValue20
 t31:=Tryz.underlying26
 a31:=Tryz.isAgg26
 z31:=Tryz.sizeOf26
 v31:=Tryz.zeroValue26
 t37:=Tryz.underlying77
 a37:=Tryz.isAgg77
 z37:=Tryz.sizeOf77
 v37:=Tryz.zeroValue77
 t70:=Tryz.underlying76
 a70:=Tryz.isAgg76
 z70:=Tryz.sizeOf76
 v70:=Tryz.zeroValue76
 t72:=Tryz.underlying79
 a72:=Tryz.isAgg79
 z72:=Tryz.sizeOf79
 v72:=Tryz.zeroValue79
 t75:=Tryz.underlying82
 a75:=Tryz.isAgg82
 z75:=Tryz.sizeOf82
 v75:=Tryz.zeroValue82
 t76:=Tryz.underlying83
 a76:=Tryz.isAgg83
 z76:=Tryz.sizeOf83
 v76:=Tryz.zeroValue83
 t127:=Tryz.underlying102
 a127:=Tryz.isAgg102
 z127:=Tryz.sizeOf102
 v127:=Tryz.zeroValue102
 t164:=Tryz.underlying131
 a164:=Tryz.isAgg131
 z164:=Tryz.sizeOf131
 v164:=Tryz.zeroValue131 }
theorem Jsh:Builder.Extra Tryz.prog Tryz_lays156_renX:={
 sizeBuilder:=by kernel_rfl
 liesBuilder:=by kernel_rfl
 t5:=Tryz.underlying5
 a5:=Tryz.isAgg5
 z5:=Tryz.sizeOf5
 v5:=Tryz.zeroValue5
 infoByte:=by kernel_rfl
 cellsByte:=by kernel_rfl
 sizeByte:=by kernel_rfl
 neB5:=by decide }
open Go.RowKit in
theorem Tryz.strings_Join_none (a:Option Addr) (c:Nat) (sep:ByteArray) (w:World) :
  Calls Tryz.prog 30 #[.slice a 0 c,.string sep] w fun e w'=>e=.returned (.string ⟨#[]⟩)∧w'=w:=Any.strings_Join_none Jvj Jsh a c sep w
open Go.RowKit in
theorem Tryz.strings_Join (bk o c:Nat) (xs:List ByteArray) (sep:ByteArray) (w:World) (hcells:∀ (j:Nat) x,xs[j]? = some x→w.cell? ⟨bk,o+j,none⟩=some (.string x)) (hbk:bk<w.heap.size) (hN:xs.length≤140737488355328) (hcap:xs.length≤c) (hlen:(Lib.join (xs.map (·.data.toList)) sep.data.toList).length≤140737488355328) :
  Calls Tryz.prog 30 #[.slice (some ⟨bk,o,none⟩) xs.length c,.string sep] w fun e w'=>e=.returned (.string ⟨(Lib.join (xs.map (·.data.toList)) sep.data.toList).toArray⟩)∧Below w.heap.size w w':=Any.strings_Join Jvj Jsh bk o c xs sep w hcells hbk hN hcap hlen
def Tryz_lays105_renX:Go.Shelf.Ren:=⟨fun | 105=>93 | 212=>114 | 99=>98 | 165=>43 | 166=>44 | 170=>115 | 169=>45 | 263=>147 | 264=>148 | 206=>127 | 240=>59 | 241=>60 | 276=>86 | 277=>87 | n=>n,fun | 9=>9 | 3=>3 | 4=>4 | 20=>20 | 0=>0 | 46=>115 | 109=>154 | 5=>5 | 72=>79 | 76=>83 | 51=>177 | 146=>187 | 53=>141 | 148=>189 | 70=>76 | 37=>77 | 75=>82 | 127=>102 | 164=>131 | 80=>85 | n=>n,fun | n=>n⟩
theorem Jzn:Go.Proofs.Lays.n105 Tryz.prog Tryz_lays105_renX:={
 mixed:=by kernel_rfl
 f99:=Tryz.func98.trans (congrArg some (by kernel_rfl))
 f105:=Tryz.func93.trans (congrArg some (by kernel_rfl))
 f165:=Tryz.func43.trans (congrArg some (by kernel_rfl))
 f166:=Tryz.func44.trans (congrArg some (by kernel_rfl))
 f169:=Tryz.func45.trans (congrArg some (by kernel_rfl))
 f170:=Tryz.func115.trans (congrArg some (by kernel_rfl))
 f206:=Tryz.func127.trans (congrArg some (by kernel_rfl))
 f212:=Tryz.func114.trans (congrArg some (by kernel_rfl))
 f240:=Tryz.func59.trans (congrArg some (by kernel_rfl))
 f241:=Tryz.func60.trans (congrArg some (by kernel_rfl))
 f263:=Tryz.func147.trans (congrArg some (by kernel_rfl))
 f264:=Tryz.func148.trans (congrArg some (by kernel_rfl))
 f276:=Tryz.func86.trans (congrArg some (by kernel_rfl))
 f277:=Tryz.func87.trans (congrArg some (by kernel_rfl))
 t0:=Tryz.underlying0
 a0:=Tryz.isAgg0
 z0:=Tryz.sizeOf0
 v0:=Tryz.zeroValue0
 t3:=Tryz.underlying3
 a3:=Tryz.isAgg3
 z3:=Tryz.sizeOf3
 v3:=Tryz.zeroValue3
 t4:=Tryz.underlying4
 a4:=Tryz.isAgg4
 z4:=Tryz.sizeOf4
 v4:=Tryz.zeroValue4
 t5:=Tryz.underlying5
 a5:=Tryz.isAgg5
 z5:=Tryz.sizeOf5
 v5:=Tryz.zeroValue5
 t9:=Tryz.underlying9
 a9:=Tryz.isAgg9
 z9:=Tryz.sizeOf9
 v9:=Tryz.zeroValue9
 t20:=Tryz.underlying20
 a20:=Tryz.isAgg20
 z20:=Tryz.sizeOf20
 v20:=Tryz.zeroValue20
 t37:=Tryz.underlying77
 a37:=Tryz.isAgg77
 z37:=Tryz.sizeOf77
 v37:=Tryz.zeroValue77
 t46:=Tryz.underlying115
 a46:=Tryz.isAgg115
 z46:=Tryz.sizeOf115
 v46:=Tryz.zeroValue115
 t51:=Tryz.underlying177
 a51:=Tryz.isAgg177
 z51:=Tryz.sizeOf177
 v51:=Tryz.zeroValue177
 t53:=Tryz.underlying141
 a53:=Tryz.isAgg141
 z53:=Tryz.sizeOf141
 v53:=Tryz.zeroValue141
 t70:=Tryz.underlying76
 a70:=Tryz.isAgg76
 z70:=Tryz.sizeOf76
 v70:=Tryz.zeroValue76
 t72:=Tryz.underlying79
 a72:=Tryz.isAgg79
 z72:=Tryz.sizeOf79
 v72:=Tryz.zeroValue79
 t75:=Tryz.underlying82
 a75:=Tryz.isAgg82
 z75:=Tryz.sizeOf82
 v75:=Tryz.zeroValue82
 t76:=Tryz.underlying83
 a76:=Tryz.isAgg83
 z76:=Tryz.sizeOf83
 v76:=Tryz.zeroValue83
 t109:=Tryz.underlying154
 a109:=Tryz.isAgg154
 z109:=Tryz.sizeOf154
 v109:=Tryz.zeroValue154
 t127:=Tryz.underlying102
 a127:=Tryz.isAgg102
 z127:=Tryz.sizeOf102
 v127:=Tryz.zeroValue102
 t146:=Tryz.underlying187
 a146:=Tryz.isAgg187
 z146:=Tryz.sizeOf187
 v146:=Tryz.zeroValue187
 t148:=Tryz.underlying189
 a148:=Tryz.isAgg189
 z148:=Tryz.sizeOf189
 v148:=Tryz.zeroValue189
 t164:=Tryz.underlying131
 a164:=Tryz.isAgg131
 z164:=Tryz.sizeOf131
 v164:=Tryz.zeroValue131 }
theorem Jtz:Builder.Extra Tryz.prog Tryz_lays105_renX:={
 sizeBuilder:=by kernel_rfl
 liesBuilder:=by kernel_rfl
 t5:=Tryz.underlying5
 a5:=Tryz.isAgg5
 z5:=Tryz.sizeOf5
 v5:=Tryz.zeroValue5
 infoByte:=by kernel_rfl
 cellsByte:=by kernel_rfl
 sizeByte:=by kernel_rfl
 neB5:=by decide }
open Go.RowKit Go.Lib in
theorem Tryz.strings_Repeat (s:ByteArray) (c:Nat) (w:World) (hc:c≤9223372036854775807) (hlen:s.size * c≤140737488355328) :
  Calls Tryz.prog 93 #[.string s,.int .i64 c] w fun e w'=>e=.returned (.string ⟨(Lib.repeatL s.data.toList c).toArray⟩)∧Below w.heap.size w w':=Any.strings_Repeat Jzn Jtz s c w hc hlen
end Go.Proofs
set_option maxRecDepth 100000
set_option maxHeartbeats 2000000
namespace Go.LX
open Go Go.RowKit Go.Proofs
attribute [local irreducible] Al SWP Bi
theorem Juw (s:List UInt8) (n:Nat) (hn:n≤9223372036854775807) (hl:s.length * n≤140737488355328):Det cx 93 [.p (.str s),.p (.int .i64 n)] [] (.p (.str (Lib.repeatL s n))) []:=by
 refine Jq2 (v:=.string ⟨⟨Lib.repeatL s n⟩⟩) (enters_of Tryz.func93 krf rfl) rfl (fun β w Im=>PRep.str _) fun β Im w vs hg hf=>?_
 obtain ⟨v,u,rfl,h1,h2⟩:=fit2 hf;cases Ks h1;cases Mz h2;exact Tryz.strings_Repeat ⟨⟨s⟩⟩ n w hn hl
theorem J0s (s:List UInt8) (n:Int) (h0:0≤n) (hn:n≤9223372036854775807) (hl:s.length * n.toNat≤140737488355328):Det cx 93 [.p (.str s),.p (.int .i64 n)] [] (.p (.str (Lib.repeatL s n.toNat))) []:=by
 have:=Juw s n.toNat omg hl
 rwa [Int.toNat_of_nonneg h0] at this
theorem J4h (n:Node) (hn:n.small):Det cx 109 [.p (.agg n.pv)] [] (.p (.str (Jsd n))) []:=by
 obtain ⟨a1,a2,a3⟩:=hn;have hr:∀ k,(Lib.repeatL [48] k).length=k:=Jvz;have w1:IntKind.i64.wrap (1 - n.e)=1 - n.e:=Aa omg omg;have w2:IntKind.i64.wrap (1 - n.e - n.s.length)=1 - n.e - n.s.length:=Aa omg omg;have w3:IntKind.i64.wrap (n.s.length+n.e)=n.s.length+n.e:=Aa omg omg;have w4:IntKind.i64.wrap (((1 - n.e - n.s.length).toNat:Int)+n.s.length+n.e)=((1 - n.e - n.s.length).toNat:Int)+n.s.length+n.e:=Aa omg omg;have hmax:max (1 - n.e - (n.s.length:Int)) 0=((1 - n.e - n.s.length).toNat:Nat):=by omega
 have hi:=J0c (n:=n.e) omg omg;(refine bgo Tryz.func109 ?_;simp only [go_sem,simprocAttr,Jst,w1,w2,w3,hmax]);(repeat' (first | (apply iteI <;> intro h)|(refine Jqd ?_)|((first | (refine Jql ?_)|(refine Jqa (J0s [48] n.e omg omg (by simp;omega)) ?_)|(refine Jqa (Juw [48] _ omg (by simp;omega)) ?_)|(refine Jqa (N0 n.e omg omg) ?_));simp only [go_sem,simprocAttr,w4,hr,List.length_append,Int.natCast_add])|(exfalso;omega)))
 all_goals (try (refine ⟨by simp [hr];omega,by simp [hr];omega,by omega,by omega,by simp [hr];omega,?_⟩))
 all_goals clear hmax w1 w2 w3 w4
 all_goals simp [Jsd,Jtt, *]
theorem J0v:∀ {f:RF} {p:RKT},Jug f→p∈f.list→p.1.length≤100∧fitQ p.2
 | .nil,p,_,h=>by simp [RF.list] at h
 | .cons nm t r,p,hf,h=>by
  rw [Jug] at hf;rcases List.mem_cons.1 h with rfl | h
  ·exact ⟨hf.1,hf.2.1⟩
  ·exact J0v hf.2.2 h
theorem Jzi:∀ {f:RF} {p:RKT},p∈f.list→(p.2.enc p.1).length≤f.enc.length
 | .nil,p,h=>by simp [RF.list] at h
 | .cons nm t r,p,h=>by
  rw [Jqf,List.length_append];rcases List.mem_cons.1 h with rfl | h
  ·simp only;omega
  ·have:=Jzi h;omega
theorem J41 (s:List UInt8):Hy [⟨false,s,0⟩]=46 :: nmT s:=by
 unfold Hy Br nmT;simp only [List.flatMap_cons,List.flatMap_nil,List.append_nil,Bv,Bool.false_eq_true,if_false];split <;> rfl
theorem J6q {c:Node} (h:Jqk c) (hk:c.kind=3):c.small:=by
 have h2:=h.2.2;unfold G3 at h2;rw [if_neg omg,if_pos hk] at h2;obtain ⟨_,_,a1,a2,a3,a4,_⟩:=h2;exact ⟨by omega,by omega,by omega⟩
theorem J7o {c:Node} (h:Jqk c) (hk:c.kind=4):valid c.s=true:=by
 have h2:=h.2.2;unfold G3 at h2;rw [if_neg omg,if_neg omg,if_pos hk] at h2;exact h2.1
theorem Jut {c:Node} (h:Jqk c):c.kind=0∨c.kind=1∨c.kind=2∨c.kind=3∨c.kind=4:=by
 have h2:=h.2.2;have h1:=h.1;unfold G3 at h2;by_cases a:c.kind=0∨c.kind=1∨c.kind=2
 ·omega
 rw [if_neg a] at h2;by_cases b:c.kind=3
 ·omega
 rw [if_neg b] at h2;by_cases d:c.kind=4
 ·omega
 rw [if_neg d,if_neg omg] at h2;exact h2.elim
end Go.LX
namespace Go.LX
open Go
def J1z (c:UInt8):Bool:=decide (48≤c.toNat) && decide (c.toNat≤57)
theorem J72 {s:List UInt8} (h:Pk s=true):∀ c∈s,J1z c=true:=by
 intro c hc;have:=List.all_eq_true.1 h c hc;exact this
theorem J3a (k:Nat):∀ c∈Lib.repeatL [48] k,J1z c=true:=by
 intro c hc;have:Lib.repeatL [48] k=List.replicate k 48:=by
  have:=Lib.repeatL_replicate 48 1 k;simpa using this
 rw [this] at hc;rw [(List.mem_replicate.1 hc).2];rfl
def Jvb (n:Node):List UInt8 :=
 if n.s.length=0 then [48] else if 0≤n.e∧(n.s.length:Int)+n.e≤20 then n.s ++ Lib.repeatL [48] n.e.toNat else
 if n.e<0∧-20≤n.e then (Lib.repeatL [48] (1 - n.e - n.s.length).toNat ++ n.s).take (((Lib.repeatL [48] (1 - n.e - n.s.length).toNat ++ n.s).length:Int)+n.e).toNat else n.s
def J6i (n:Node):List UInt8 :=
 if n.s.length=0 then [] else if 0≤n.e∧(n.s.length:Int)+n.e≤20 then [] else
 if n.e<0∧-20≤n.e then 46 :: (Lib.repeatL [48] (1 - n.e - n.s.length).toNat ++ n.s).drop (((Lib.repeatL [48] (1 - n.e - n.s.length).toNat ++ n.s).length:Int)+n.e).toNat else 101 :: Lib.itoa n.e
theorem Jyg {n:Node} (h:Yz n.s n.neg n.e):Jsd n=Jtt n ++ (Jvb n ++ J6i n):=by
 have hz:n.s.length=0→Jtt n=[]:=fun h0=>by
  have:=h.2.2.2.2.2;rw [if_pos (List.eq_nil_of_length_eq_zero h0)] at this;unfold Jtt;rw [this.1];rfl
 unfold Jsd Jvb J6i;split
 ·rename_i h0;rw [hz h0];rfl
 ·split
  ·simp
  ·split
   ·simp
   ·simp
theorem J2u {n:Node} (h:Yz n.s n.neg n.e):∀ c∈Jvb n,J1z c=true:=by
 have hs:=J72 h.1;intro c hc;unfold Jvb at hc;split at hc
 ·rw [List.mem_singleton.1 hc];rfl
 ·split at hc
  ·rcases List.mem_append.1 hc with hc | hc
   ·exact hs c hc
   ·exact J3a _ c hc
  ·split at hc
   ·rcases List.mem_append.1 (List.mem_of_mem_take hc) with hc | hc
    ·exact J3a _ c hc
    ·exact hs c hc
   ·exact hs c hc
theorem J3s {n:Node} (h:Yz n.s n.neg n.e):Jvb n≠[]:=by
 unfold Jvb;split
 ·simp
 ·rename_i h0;split
  ·intro e;have:=congrArg List.length e;simp at this;exact h0 (by rw [this.1];rfl)
  ·split
   ·intro e;have:=congrArg List.length e;rw [List.length_take,List.length_append,Jvz] at this;simp only [List.length_nil] at this;omega
   ·intro e;rw [e] at h0;exact h0 rfl
theorem Jyk {n:Node} (h:Yz n.s n.neg n.e):∃ c r,Jsd n=c :: r∧(c=45∨J1z c=true)∧(c=45 ↔ n.neg=true):=by
 rw [Jyg h];obtain ⟨c,r,e⟩:=List.exists_cons_of_ne_nil (J3s h);have hc:=J2u h c (by rw [e];exact List.mem_cons_self);unfold Jtt;by_cases hg:n.neg=true
 ·rw [if_pos hg];exact ⟨45,_,rfl,.inl rfl,by simp [hg]⟩
 ·rw [if_neg hg,e];refine ⟨c,_,rfl,.inr hc,⟨fun h45=>?_,fun h=>absurd h hg⟩⟩;subst h45;cases hc
instance (c:Nat):Decidable (letP c):=by unfold letP;infer_instance
instance (c:Nat):Decidable (figP c):=by unfold figP;infer_instance
end Go.LX
namespace Go.LX
open Go Go.RowKit Go.Proofs
attribute [local irreducible] Al SWP Bi
theorem Jzj (sep:List UInt8):∀ ls:List (List UInt8),Lib.join ls sep=Jrm sep ls
 | []=>by simp [Jrm,Lib.join_nil]
 | [x]=>by simp [Jrm,Lib.join_one]
 | x :: y :: l=>by
  have:=Jzj sep (y :: l);rw [Jrm,← this];simp [Lib.join,List.intercalate,List.intersperse]
theorem J18 (ls:List (List UInt8)) (sep:List UInt8) (hn:ls.length≤1000000) (hl:(Jrm sep ls).length≤1000000000):Det cx 30 [.p (.sl (Jqr ls)),.p (.str sep)] [] (.p (.str (Jrm sep ls))) []:=by
 refine Jq2 (v:=.string ⟨⟨Jrm sep ls⟩⟩) (enters_of Tryz.func30 krf rfl) rfl (fun β w Im=>PRep.str _) fun β Im w vs hg hf=>?_
 obtain ⟨v,u,rfl,h1,h2⟩:=fit2 hf;cases Ks h2;have h1:PRep w Im v (.sl (Jqr ls)):=h1;have key:∀ xs:List (List UInt8),(xs.map fun s=>(⟨⟨s⟩⟩:ByteArray)).map (fun x=>x.data.toList)=xs:=by
  intro xs;rw [List.map_map];exact List.map_id' xs
 generalize hr:Jqr ls=rows at h1;cases h1 with
 | slNil =>
  have:ls=[]:=by cases ls with
   | nil=>rfl
   | cons=>cases hr
  subst this;refine (Tryz.strings_Join_none _ 0 ⟨⟨sep⟩⟩ w).mono fun e w' ⟨a,b⟩=>⟨a,?_⟩
  subst b;exact Below.refl _ _
 | sl b off cap sz es hcap hb f hsz hsc hc h =>
  subst hr;have hlen:(Jqr ls).length=(ls.map fun s=>(⟨⟨s⟩⟩:ByteArray)).length:=by simp
  rw [hlen];have ej:Lib.join ((ls.map fun s=>(⟨⟨s⟩⟩:ByteArray)).map (fun x=>x.data.toList)) (⟨⟨sep⟩⟩:ByteArray).data.toList=Jrm sep ls:=by rw [key];exact Jzj sep ls
  have:=Tryz.strings_Join b off cap (ls.map fun s=>(⟨⟨s⟩⟩:ByteArray)) ⟨⟨sep⟩⟩ w (fun j x hj=>?_) (hf.im b hb) (by simp;omega) (by simpa using hcap) (by rw [ej];omega)
  ·rw [ej] at this;exact this
  ·rw [List.getElem?_map] at hj;obtain ⟨s,hs,rfl⟩:=Option.map_eq_some_iff.1 hj;have hg:=Jvw hs;have hsz1:sz=1:=(hsz _ (List.mem_of_getElem? hg)).symm;subst hsz1;have hjl:=(List.getElem?_eq_some_iff.1 hg).1;have h0:=hc j hjl 0 omg;have hp:=h j _ 0 (.str s) hg rfl;rw [Nat.mul_one,Nat.add_zero] at h0;rw [h0];generalize f j 0=y at hp;cases hp;rfl
theorem Kak:liesAt Tryz.prog Tryz.prog.depth 104 1 0 79 1=true:=krf
theorem Jyw (b:Bool):Det cx 59 [.ptr 1000 0 0] [(1000,.var 104 [.p .nptr,.p .snil,.p (.bool b)])] (.tup []) [(1000,.var 104 [.ptr 1000 0 0,.p .snil,.p (.bool b)])]:=by
 (refine bgo Tryz.func59 ?_;simp only [go_sem,simprocAttr]);(repeat' (first | ((refine Jxk (Jag _) ?_);simp only [go_sem,simprocAttr]) | fail));exact Kak
theorem Js0 (s:List UInt8) (hs:s.length≤1000000000) (b:Bool):Det cx 44 [.ptr 1000 0 0,.p (.str s)] [(1000,.var 104 [.p .nptr,.p .snil,.p (.bool b)])] (.tup [.int .i64 s.length,.nifc]) [(900,.row 5 1 (bstr s)),(1000,.var 104 [.ptr 1000 0 0,.own 900 0 s.length,.p (.bool b)])]:=by
 (refine bgoR false [(14,900)] Tryz.func44 ?_;simp only [go_sem,simprocAttr]);(repeat' (first | ((refine Jqa (Jyw b) ?_);simp only [go_sem,simprocAttr]) | fail));exact ⟨X6 s,by omega,by omega,rfl⟩
theorem J7b (s:List UInt8) (n:Nat) (b:Bool) (hn:s.length=n) (h1:n≤1000000000) (h0:n≠0):Det cx 45 [.ptr 1000 0 0] [(500001,.row 5 1 (bstr s)),(1000,.var 104 [.ptr 1000 0 0,.own 500001 0 n,.p (.bool b)])] (.p (.str s)) [(1000,.var 104 [.ptr 1000 0 0,.junk,.p (.bool b)])]:=by
 (refine bgo Tryz.func45 ?_;simp only [go_sem,simprocAttr]);(refine Gi 10 hm krf krf ?_;simp only [go_sem,simprocAttr,Ox]);have h2:s≠[]:=fun h=>by subst h;exact h0 (by rw [← hn];rfl)
 simp [hn,h2];omega
theorem J6k {c:Node} (hp:Jqk c) (hk:c.kind=3):Yz c.s c.neg c.e:=by
 have h2:=hp.2.2;unfold G3 at h2;rw [if_neg omg,if_pos hk] at h2;exact h2.2
theorem Jus {c:Node} (hp:Jqk c) (hk:c.kind=3):(Jsd c).length≤200:=by
 obtain ⟨_,a1,a2,a3,_⟩:=J6k hp hk;exact Jw2 omg omg omg
theorem J7m (c:Node) (hp:Jqk c) (hs:c.s.length≤1000000) (b:Bool):Det cx 88 [.ptr 1000 0 0,.p (.agg [.int .i64 c.kind,.int .i64 c.many,.str c.name,.str c.s,.bool c.neg,.int .i64 c.e])] [(1000,.var 104 [.p .nptr,.p .snil,.p (.bool b)])] (.tup []) [(900,.row 5 1 (bstr (Jrx c))),(1000,.var 104 [.ptr 1000 0 0,.own 900 0 (Jrx c).length,.p (.bool b)])]:=by
 have hN:=fun hk=>J4h c (J6q hp hk)
 have hQ:=fun hv=>Kt c.s hs hv
 obtain ⟨k,m,nm,s,g,e⟩:=c;rcases Jut hp with h | h | h | h | h <;> simp only at h hN hQ <;> subst h
 ·have hW:=Js0 [110,117,108,108] sm b;(refine bgoR false [(18,900)] Tryz.func88 ?_;simp only [go_sem,simprocAttr]);(repeat' (first | ((refine Jqa (hW) ?_);simp only [go_sem,simprocAttr]) | fail))
  all_goals exact ⟨rfl,rfl⟩
 ·have hW:=Js0 [102,97,108,115,101] sm b;(refine bgoR false [(24,900)] Tryz.func88 ?_;simp only [go_sem,simprocAttr]);(repeat' (first | ((refine Jqa (hW) ?_);simp only [go_sem,simprocAttr]) | fail))
  all_goals exact ⟨rfl,rfl⟩
 ·have hW:=Js0 [116,114,117,101] sm b;(refine bgoR false [(30,900)] Tryz.func88 ?_;simp only [go_sem,simprocAttr]);(repeat' (first | ((refine Jqa (hW) ?_);simp only [go_sem,simprocAttr]) | fail))
  all_goals exact ⟨rfl,rfl⟩
 ·have hN:=hN rfl;rw [Jst] at hN;have hl:=Jus hp rfl;have hW:=Js0 (Jsd ⟨3,m,nm,s,g,e⟩) omg b;(refine bgoR false [(38,900)] Tryz.func88 ?_;simp only [go_sem,simprocAttr]);(refine Gi 5 hm krf krf ?_;simp only [go_sem,simprocAttr]);(repeat' (first | ((first | (refine Jqe (hN) ?_)|(refine Jqa (hW) ?_));simp only [go_sem,simprocAttr]) | fail))
  all_goals exact ⟨rfl,rfl⟩
 ·have hQ:=hQ (J7o hp rfl);have hl:=Jd4 s;have hW:=Js0 (refQ s) (by simp only at hs;omega) b;(refine bgoR false [(12,900)] Tryz.func88 ?_;simp only [go_sem,simprocAttr]);(refine Gi 6 hm krf krf ?_;simp only [go_sem,simprocAttr]);(repeat' (first | ((first | (refine Jqe (hQ) ?_)|(refine Jqa (hW) ?_));simp only [go_sem,simprocAttr]) | fail))
  all_goals exact ⟨rfl,rfl⟩
theorem J77 {c:Node} (hp:Jqk c):(Jrx c).length≠0:=by
 rcases Jut hp with h | h | h | h | h
 ·unfold Jrx;rw [if_pos h];simp
 ·unfold Jrx;rw [if_neg omg,if_pos h];simp
 ·unfold Jrx;rw [if_neg omg,if_neg omg,if_pos h];simp
 ·unfold Jrx;rw [if_neg omg,if_neg omg,if_neg omg,if_pos h];intro h0;obtain ⟨a,r,e,_⟩:=Jyk (J6k hp h);rw [e] at h0;simp at h0
 ·unfold Jrx;rw [if_neg omg,if_neg omg,if_neg omg,if_neg omg];unfold refQ;simp
theorem J73 {c:Node} (hp:Jqk c) (hs:c.s.length≤1000000):(Jrx c).length≤10000000:=by
 rcases Jut hp with h | h | h | h | h
 ·unfold Jrx;rw [if_pos h];simp
 ·unfold Jrx;rw [if_neg omg,if_pos h];simp
 ·unfold Jrx;rw [if_neg omg,if_neg omg,if_pos h];simp
 ·unfold Jrx;rw [if_neg omg,if_neg omg,if_neg omg,if_pos h];have:=Jus hp h;omega
 ·unfold Jrx;rw [if_neg omg,if_neg omg,if_neg omg,if_neg omg];have:=Jd4 c.s;omega
theorem J6r (c:Node) (hp:Jqk c) (hs:c.s.length≤1000000) (b:Bool):Det cx 61 [.ptr 1000 0 0,.p (.sl [[.int .i64 c.kind,.int .i64 c.many,.str c.name,.str c.s,.bool c.neg,.int .i64 c.e]]),.p (.int .i64 0),.p (.int .i64 0)] [(1000,.var 104 [.p .nptr,.p .snil,.p (.bool b)])] (.p (.int .i64 1)) [(900,.row 5 1 (bstr (Jrx c))),(1000,.var 104 [.ptr 1000 0 0,.own 900 0 (Jrx c).length,.p (.bool b)])]:=by
 have hS:=J7m c hp hs b;have c1:(c.kind<5)=True:=eq_true hp.1;have w1:IntKind.i64.wrap (0+1)=1:=by decide
 have w2:IntKind.i64.wrap 1=1:=by decide
 have w0:IntKind.i64.wrap 0=0:=by decide
 (refine bgoR false [(23,900)] Tryz.func61 ?_;simp only [go_sem,simprocAttr,c1,w2]);(repeat' (first | ((refine Jqa (hS) ?_);simp only [go_sem,simprocAttr]) | fail))
theorem J5f (c:Node) (hp:Jqk c) (hs:c.s.length≤1000000):Det cx 46 [.p (.sl [[.int .i64 c.kind,.int .i64 c.many,.str c.name,.str c.s,.bool c.neg,.int .i64 c.e]])] [] (.p (.str (Jrx c))) []:=by
 have hP:=J6r c hp hs false;have hS:=J7b (Jrx c) (Jrx c).length false rfl (by have:=J73 hp hs;omega) (J77 hp);(refine bgo Tryz.func46 ?_;simp only [go_sem,simprocAttr]);(repeat' (first | ((first | (refine Jqa (hP) ?_)|(refine Jqa (hS) ?_));simp only [go_sem,simprocAttr]) | fail))
@[go_sem] theorem f_ba6 {parts:List (Nat×L)} {K:L→Prop}:Vf Tryz.prog 87 parts K=(Tryz.prog.cellsOf 9=1∧6=parts.length∧zok (Bu Tryz.prog 87) 6∧Bq (Jue 0 parts) (kagg K)):=Jya f_u87
def oneL (k:Int) (l:List PTx):List (List PV):=Jqr (l.map (oneT k))
end Go.LX
namespace Go.LX
open Go Go.RowKit Go.Proofs
section
variable {X:Cx} {ro:Option Nat} {md:Region.Mode} {ops:Array Oper}
def takeQ (md:Region.Mode) (ops:Array Oper) (q:Nat→Bool):List Nat→Array Bool→Bool
 | [],_=>true
 | i :: I,listed=>(Region.ready md ops listed).contains i && (Region.free md ops listed i && (q i && ((List.range ops.size).all (fun j=>q j || ancB md ops ops.size i j) && takeQ md ops q I (listed.setIfInBounds i true))))
def J9i (X:Cx) (ds:List (Option Tmp)) (ops:List Oper) (q:Nat→Bool) (K:St→Prop):Ord→St→Prop
 | .leaf,s=>K s
 | .nil,_=>True
 | .bad,_=>False
 | .node i sub next,s=>(if q i=true then YSAt X ds ops i (J9i X ds ops q K sub) s else lAt X ds ops i (J9i X ds ops q K sub) s)∧J9i X ds ops q K next s
end
def qi (k a b i:Nat):Bool:=decide (i<k) || (!decide (i<a) && decide (i<b))
section
variable {X:Cx} {ds:List (Option Tmp)} {t:List L} {r:Regs} {E:St→Prop}
def qj (a b c e i:Nat):Bool:=(!decide (i<a) && decide (i<b)) || (!decide (i<c) && decide (i<e))
end
section
variable {X:Cx} {ro:Option Nat} {ops:Array Oper}
def Ka7 (o:Oper):Bool:=o.guard.isNone && match o.op,o.dst with
 | .buildSlice _ 0 parts,some _=>parts.toList.isEmpty
 | _,_=>false
def J3k (o:Oper):Bool:=Js9 o || (o.guard.isNone && match o.op with
 | .slice ..=>true
 | _=>false)
def takeAQ (ops:Array Oper) (q:Nat→Bool):List Nat→Array Bool→Bool
 | [],_=>true
 | i :: I,listed=>(Region.ready .any ops listed).contains i && (Region.free .any ops listed i && (q i && ((match ops[i]? with | some o=>J3k o | none=>false) && ((List.range ops.size).all (fun j=>q j || (ancB .any ops ops.size i j || match ops[j]? with | some o=>Ka7 o | none=>false)) && takeAQ ops q I (listed.setIfInBounds i true)))))
end
section
variable {X:Cx} {r:Regs} {t:List L} {dst:Option Tmp} {ty:TypeId} {ps:String} {af:Array Edge} {g:Option (Nat×Bool)}
def farB (s:St):Option Operand→Prop
 | some x=>farL (s.get x)=true
 | none=>True
end
section
variable {X:Cx} {ro:Option Nat} {ops:Array Oper}
def isMk (kp:Nat→Bool) (o:Oper):Bool:=o.guard.isNone && match o.op,o.dst with
 | .buildSlice t _ parts,some _=>!kp t && decide (parts.toList.length≤1)
 | .makeSlice ..,some _=>true
 | .store ..,none=>true
 | .mapEntry ..,some _=>true
 | .entryStore ..,none=>true
 | .call { callee:=.builtin .append,args,argTypes },some _=>decide (args.toList.length=2) && (decide (argTypes.toList.length=2) && argTypes.toList.all fun t=>!kp t)
 | _,_=>false
def takeCQ (kp:Nat→Bool) (ops:Array Oper) (q:Nat→Bool):List Nat→Array Bool→Bool
 | [],_=>true
 | i :: I,listed=>(Region.ready .any ops listed).contains i && (Region.free .any ops listed i && (q i && ((match ops[i]? with | some o=>J3k o | none=>false) && ((List.range ops.size).all (fun j=>q j || (ancB .any ops ops.size i j || match ops[j]? with | some o=>isMk kp o | none=>false)) && takeCQ kp ops q I (listed.setIfInBounds i true)))))
end
attribute [local irreducible] Al Bi SWP
theorem num_rt {n:Node} (h:RightN n):Yz n.s n.neg n.e:=by
 refine ⟨h.figs,h.len,h.e1,h.e2,h.top,?_⟩;split
 ·rename_i hs;exact h.zero (by rw [hs];rfl)
 ·rename_i hs;have:0<n.s.length:=by
   cases hq:n.s with
   | nil=>exact absurd hq hs
   | cons=>simp
  exact ⟨h.head this,h.last this⟩
theorem J3e (n:Node) (hk:n.kind<5) (hs:n.s.length≤1000000):Det cx 116 [.p (.agg [.int .i64 n.kind,.int .i64 n.many,.str n.name,.str n.s,.bool n.neg,.int .i64 n.e])] [] (.p (.bool (decide (G3 n.kind n.s n.neg n.e n.many)))) []:=by
 obtain ⟨k,m,nm,s,g,e⟩:=n;simp only at hk hs ⊢;by_cases k0:k=0∨k=1∨k=2
 ·rcases k0 with rfl | rfl | rfl <;> (
   (refine bgo Tryz.func116 ?_;simp only [go_sem,simprocAttr])
   all_goals (rw [Bool.eq_iff_iff];simp [G3];try (simp_all <;> omega)))
 by_cases k3:k=3
 ·subst k3;have hR:=Jy4 ⟨3,m,[],s,g,e⟩ hs;rw [Jst] at hR;have hN:Jrn ⟨3,m,[],s,g,e⟩=decide (G3 3 s g e m):=by
   rw [Bool.eq_iff_iff,Jza,decide_eq_true_eq];unfold G3;rw [if_neg omg,if_pos rfl];constructor
   ·intro h;exact ⟨h.many,(num_rt h)⟩
   ·rintro ⟨rfl,h⟩;exact J0b h
  rw [← hN];(refine bgo Tryz.func116 ?_;simp only [go_sem,simprocAttr]);(repeat' (first | ((refine Jqa (hR) ?_);simp only [go_sem,simprocAttr]) | fail))
 by_cases k4:k=4
 ·subst k4;have hV:=Fi s omg;(refine bgo Tryz.func116 ?_;simp only [go_sem,simprocAttr]);(repeat' (first | (apply iteI <;> intro h)|((refine Jqa (hV) ?_);simp only [go_sem,simprocAttr]) | fail))
  all_goals (rw [Bool.eq_iff_iff];simp [G3];try (simp_all <;> omega))
 have hno:decide (G3 k s g e m)=false:=by
  rw [decide_eq_false_iff_not];unfold G3;rw [if_neg k0,if_neg k3,if_neg k4,if_neg omg];exact id
 rw [hno];have e0:=eq_false (show ¬ k=0 by omega);have e1:=eq_false (show ¬ k=1 by omega);have e2:=eq_false (show ¬ k=2 by omega);have e3:=eq_false k3;have e4:=eq_false k4;have e5:=eq_false (show ¬ k=5 by omega);have e6:=eq_false (show ¬ k=6 by omega);(refine bgo Tryz.func116 ?_;simp only [go_sem,simprocAttr,e0,e1,e2,e3,e4,e5,e6])
 skip
theorem J20 (n:Node) (hk:n.kind<5) (hs:n.s.length≤1000000):Det cx 94 [.p (.sl [[.int .i64 n.kind,.int .i64 n.many,.str n.name,.str n.s,.bool n.neg,.int .i64 n.e]])] [] (.p (.bool (decide (Jqk n)))) []:=by
 by_cases hp:Jqk n
 ·have h:=Jz7 n.kind n.s n.neg n.e (by have:=hp.2.2;rw [Jsw hp] at this;exact this) hk hs;rw [decide_eq_true hp,Jsw hp,hp.2.1];exact h
 ·rw [decide_eq_false hp];have hP:=J3e n hk hs;obtain ⟨k,m,nm,s,g,e⟩:=n;simp only at hk hs hP ⊢;(refine bgo Tryz.func94 ?_;simp only [go_sem,simprocAttr]);refine SWP.loop (fun _:Unit=>⟨Ba 123 [(0,.p (.sl [[.int .i64 k,.int .i64 m,.str nm,.str s,.bool g,.int .i64 e]])),(3,.own 9 0 1),(10,.p (.sl [[.int .i64 k,.int .i64 m,.str nm,.str s,.bool g,.int .i64 e]])),(11,.p (.int .i64 1)),(12,.p (.int .i64 0))],[(9,.row 158 4 [[.int .i64 5,.int .i64 1,.bool false,.str []]])]⟩) (fun _=>True) (fun _=>0) () Jqc trivial ?_;rintro _ _;(refine lws ?_;simp only [go_sem,simprocAttr]);refine SWP.loop (fun _:Unit=>⟨Ba 123 [(0,.p (.sl [[.int .i64 k,.int .i64 m,.str nm,.str s,.bool g,.int .i64 e]])),(3,.own 9 0 1),(5,.ptr 5 0 0),(10,.p (.sl [[.int .i64 k,.int .i64 m,.str nm,.str s,.bool g,.int .i64 e]])),(11,.p (.int .i64 1)),(12,.p (.int .i64 0))],[(5,.var 23 [.p (.int .i64 k),.p (.int .i64 m),.p (.str nm),.p (.str s),.p (.bool g),.p (.int .i64 e)]),(9,.row 158 4 [[.int .i64 5,.int .i64 1,.bool false,.str []]])]⟩) (fun _=>True) (fun _=>0) () Jqc trivial ?_;rintro _ _;have e1:((1:Nat):Int)=1:=rfl;have w0:IntKind.i64.wrap 0=0:=by decide
  have w1:IntKind.i64.wrap 1=1:=by decide
  by_cases ho:G3 k s g e m
  ·rw [decide_eq_true ho] at hP;have hm0:m=0:=Jsw (n:=⟨k,m,[],s,g,e⟩) ⟨hk,rfl,ho⟩;subst hm0;have hnm:(nm=[])=False:=eq_false fun h=>hp ⟨hk,h,ho⟩
   (refine lws ?_;simp only [go_sem,simprocAttr,e1,w0,decide_true]);(repeat' (first | ((refine Jqa (hP) ?_);simp only [go_sem,simprocAttr,e1,w0,hnm,decide_false,Bool.not_false,Bool.not_true]) | fail))
  ·rw [decide_eq_false ho] at hP;(refine lws ?_;simp only [go_sem,simprocAttr,e1,w0,decide_true]);(repeat' (first | ((refine Jqa (hP) ?_);simp only [go_sem,simprocAttr,Bool.not_false]) | fail))
end Go.LX
namespace Go.LX
open Go
theorem Jtn:∀ a b:RF,(a.app b).list=a.list ++ b.list
 | .nil,b=>rfl
 | .cons nm t r,b=>by simp only [RF.app,RF.list,Jtn r b,List.cons_append]
end Go.LX
namespace Go.LX
open Go Go.RowKit Go.Proofs
attribute [local irreducible] Al SWP Bi
def Jtp (r:YRow):Prop:=r.s.length≤100∧r.name.length≤100∧r.c.s.length≤100∧-9223372036854775808≤r.c.e∧r.c.e≤9223372036854775807
structure FiFit (v:List YRow):Prop where
 len:v.length≤140737488355328
 row:∀ n∈v,ERow n
theorem Jzl {v:List YRow} {m:Nat} (hv:FiFit v) (h:Jsr v m=true):v.length≤m∧∀ r∈v,Jtp r:=by
 unfold Jsr at h;simp only [Bool.and_eq_true,decide_eq_true_eq,List.all_eq_true] at h;refine ⟨h.1,fun r hr=>?_⟩;have h1:=h.2 r hr;have h2:=hv.row r hr;simp only [Jwz,Bool.and_eq_true,decide_eq_true_eq] at h1;exact ⟨h1.1,h1.2.1,h1.2.2,h2.e0,h2.e1⟩
theorem J7q {r:YRow} (h:Jtp r):RowFit r:=by
 obtain ⟨a,b,c,d,e⟩:=h;exact ⟨by omega,by omega,⟨by omega,d,e⟩⟩
end Go.LX
namespace Go.LX
open Go Go.Proofs Go.RowKit Go.ChangeShapes Go.WideShapes Go.ChangeAt Go.Lib
open Go.Proofs.YtpdaccjebbbbaaaGreatDoor
theorem cTy:Tryz.prog.cellsOf 25=11:=krf
theorem bTy:0<Tryz.prog.bytesOf 25:=by decide +kernel
def YRow.vals (r:YRow):List Value:=[.int .i64 r.kind,.int .i64 r.many,.string ⟨⟨r.name⟩⟩,.string ⟨⟨r.s⟩⟩,.int .i64 r.n,.int .i64 r.c.kind,.int .i64 r.c.many,.string ⟨⟨r.c.name⟩⟩,.string ⟨⟨r.c.s⟩⟩,.bool r.c.neg,.int .i64 r.c.e]
theorem eachTy {H:Type} {enc:TypeId×Value→H} {w:World} (fuel:Nat) (cs:List Value) (y:DataW H×List MemPlace) (h:DataW.trod enc Tryz.prog w 0 (fun _=>true) true fuel 25 cs=some y) (hz:∀ n∈y.1.weights Tryz.prog 25,n≤reachBytes) :
  ∃ x:YRow,ERow x∧cs=x.vals:=by
 obtain ⟨xs,n,_,rfl,hl,hlen,hf⟩:=DataW.trod_struct Tryz.underlying25 h;rw [cTy] at hl
 match xs,hlen,cs,hl with
 | [y0,y1,y2,y3,y4,y5],_,[a0,a1,a2,a3,a4,a5,a6,a7,a8,a9,a10],_ =>
  have g0:=hf 0 _ rfl;have g1:=hf 1 _ rfl;have g2:=hf 2 _ rfl;have g3:=hf 3 _ rfl;have g4:=hf 4 _ rfl;have g5:=hf 5 _ rfl;simp only [cBool,cStr,cInt,cNode,List.drop_zero,List.drop_succ_cons,List.take_succ_cons,List.take_zero,List.getElem?_cons_zero,List.getElem?_cons_succ] at g0 g1 g2 g3 g4 g5;obtain ⟨x0,e0,rfl,_⟩:=DataW.trod_int Tryz.underlying3 g0;obtain ⟨x1,e1,rfl,_⟩:=DataW.trod_int Tryz.underlying3 g1;obtain ⟨x2,e2,rfl,z2⟩:=DataW.trod_string Tryz.underlying9 g2;obtain ⟨x3,e3,rfl,z3⟩:=DataW.trod_string Tryz.underlying9 g3;obtain ⟨x4,e4,rfl,_⟩:=DataW.trod_int Tryz.underlying3 g4;obtain ⟨c,hc,e5⟩:=Jly _ _ _ g5 (fun n hn=>hz n (by simp [DataW.weights,DataW.weightsEach,Tryz.underlying25,hn]));cases e0;cases e1;cases e2;cases e3;cases e4;cases e5;have hm:maxLen=9223372036854775807:=by decide
  have s2:=T8 x2;have s3:=T8 x3;refine ⟨⟨x0,x1,x2.data.toList,x3.data.toList,x4,c⟩,⟨?_,?_,hc.s,hc.e0,hc.e1⟩,?_⟩
  ·show x3.data.toList.length≤_;omega
  ·show x2.data.toList.length≤_;omega
  ·simp only [YRow.vals,Jc3]
theorem J8p (w:World) (Im:Nat→Prop) (x:YRow) (j:Nat) (p:PV) (h:x.cells[j]? = some p):PRep w Im (x.vals.getD j undef) p:=by
 match j,h with
 | 0,h=>cases h;exact PRep.int _ _
 | 1,h=>cases h;exact PRep.int _ _
 | 2,h=>cases h;exact PRep.str _
 | 3,h=>cases h;exact PRep.str _
 | 4,h=>cases h;exact PRep.int _ _
 | 5,h=>cases h;exact PRep.int _ _
 | 6,h=>cases h;exact PRep.int _ _
 | 7,h=>cases h;exact PRep.str _
 | 8,h=>cases h;exact PRep.str _
 | 9,h=>cases h;exact PRep.bool _
 | 10,h=>cases h;exact PRep.int _ _
 | j+11,h=>simp [YRow.cells] at h
theorem tyG {W:World} (h:laidMetH Tryz.prog Rows.tyMadeRow.laid W):QuoteG W (Ja W):=Jdp h
end Go.LX
namespace Go.Proofs
open Go.Shelf
def Tryz_lays161_renX:Go.Shelf.Ren:=⟨fun | 161=>111 | 231=>140 | 227=>141 | 233=>142 | 235=>143 | 228=>169 | 197=>155 | 151=>170 | 260=>176 | 152=>188 | 137=>128 | 119=>195 | 224=>196 | 225=>197 | 217=>157 | 266=>178 | n=>n,fun | 9=>9 | 4=>4 | 3=>3 | 5=>5 | 117=>183 | 116=>182 | 0=>0 | 124=>186 | 105=>196 | 21=>21 | 119=>111 | 46=>115 | 139=>114 | 138=>113 | n=>n,fun | 3=>0 | 4=>1 | n=>n⟩
theorem Jzt:Go.Proofs.Lays.n161 Tryz.prog Tryz_lays161_renX:={
 mixed:=by kernel_rfl
 f119:=Tryz.func195.trans (congrArg some (by kernel_rfl))
 f137:=Tryz.func128.trans (congrArg some (by kernel_rfl))
 f151:=Tryz.func170.trans (congrArg some (by kernel_rfl))
 f152:=Tryz.func188.trans (congrArg some (by kernel_rfl))
 f161:=Tryz.func111.trans (congrArg some (by kernel_rfl))
 f197:=Tryz.func155.trans (congrArg some (by kernel_rfl))
 f217:=Tryz.func157.trans (congrArg some (by kernel_rfl))
 f224:=Tryz.func196.trans (congrArg some (by kernel_rfl))
 f225:=Tryz.func197.trans (congrArg some (by kernel_rfl))
 f227:=Tryz.func141.trans (congrArg some (by kernel_rfl))
 f228:=Tryz.func169.trans (congrArg some (by kernel_rfl))
 f231:=Tryz.func140.trans (congrArg some (by kernel_rfl))
 f233:=Tryz.func142.trans (congrArg some (by kernel_rfl))
 f235:=Tryz.func143.trans (congrArg some (by kernel_rfl))
 f260:=Tryz.func176.trans (congrArg some (by kernel_rfl))
 f266:=Tryz.func178.trans (congrArg some (by kernel_rfl))
 t0:=Tryz.underlying0
 a0:=Tryz.isAgg0
 z0:=Tryz.sizeOf0
 v0:=Tryz.zeroValue0
 t3:=Tryz.underlying3
 a3:=Tryz.isAgg3
 z3:=Tryz.sizeOf3
 v3:=Tryz.zeroValue3
 t4:=Tryz.underlying4
 a4:=Tryz.isAgg4
 z4:=Tryz.sizeOf4
 v4:=Tryz.zeroValue4
 t5:=Tryz.underlying5
 a5:=Tryz.isAgg5
 z5:=Tryz.sizeOf5
 v5:=Tryz.zeroValue5
 t9:=Tryz.underlying9
 a9:=Tryz.isAgg9
 z9:=Tryz.sizeOf9
 v9:=Tryz.zeroValue9
 t21:=Tryz.underlying21
 a21:=Tryz.isAgg21
 z21:=Tryz.sizeOf21
 v21:=Tryz.zeroValue21
 t46:=Tryz.underlying115
 a46:=Tryz.isAgg115
 z46:=Tryz.sizeOf115
 v46:=Tryz.zeroValue115
 t105:=Tryz.underlying196
 a105:=Tryz.isAgg196
 z105:=Tryz.sizeOf196
 v105:=Tryz.zeroValue196
 t116:=Tryz.underlying182
 a116:=Tryz.isAgg182
 z116:=Tryz.sizeOf182
 t117:=Tryz.underlying183
 a117:=Tryz.isAgg183
 z117:=Tryz.sizeOf183
 v117:=Tryz.zeroValue183
 t119:=Tryz.underlying111
 a119:=Tryz.isAgg111
 z119:=Tryz.sizeOf111
 t124:=Tryz.underlying186
 a124:=Tryz.isAgg186
 z124:=Tryz.sizeOf186
 v124:=Tryz.zeroValue186
 t138:=Tryz.underlying113
 a138:=Tryz.isAgg113
 z138:=Tryz.sizeOf113
 v138:=Tryz.zeroValue113
 t139:=Tryz.underlying114
 a139:=Tryz.isAgg114
 z139:=Tryz.sizeOf114
 v139:=Tryz.zeroValue114
 g3:=by kernel_rfl
 g4:=by kernel_rfl }
open Go.RowKit in
theorem Tryz.strings_TrimLeft_one (s:ByteArray) (c:UInt8) (hc:c.toNat<128) (w:World) :
  Calls Tryz.prog 111 #[.string s,.string ⟨#[c]⟩] w fun e w'=>e=.returned (.string ⟨(Lib.trimLeftB s.data.toList c).toArray⟩)∧w'=w:=Any.strings_TrimLeft_one Jzt s c hc w
def Tryz_lays162_renX:Go.Shelf.Ren:=⟨fun | 162=>112 | 232=>144 | 227=>141 | 234=>145 | 236=>146 | 228=>169 | 271=>171 | 151=>170 | 120=>189 | 197=>155 | 152=>188 | 260=>176 | 137=>128 | 119=>195 | 224=>196 | 225=>197 | 217=>157 | 266=>178 | n=>n,fun | 9=>9 | 4=>4 | 3=>3 | 5=>5 | 117=>183 | 116=>182 | 0=>0 | 124=>186 | 21=>21 | 105=>196 | 46=>115 | 119=>111 | 139=>114 | 138=>113 | n=>n,fun | 3=>0 | 4=>1 | n=>n⟩
theorem Jzu:Go.Proofs.Lays.n162 Tryz.prog Tryz_lays162_renX:={
 mixed:=by kernel_rfl
 f119:=Tryz.func195.trans (congrArg some (by kernel_rfl))
 f120:=Tryz.func189.trans (congrArg some (by kernel_rfl))
 f137:=Tryz.func128.trans (congrArg some (by kernel_rfl))
 f151:=Tryz.func170.trans (congrArg some (by kernel_rfl))
 f152:=Tryz.func188.trans (congrArg some (by kernel_rfl))
 f162:=Tryz.func112.trans (congrArg some (by kernel_rfl))
 f197:=Tryz.func155.trans (congrArg some (by kernel_rfl))
 f217:=Tryz.func157.trans (congrArg some (by kernel_rfl))
 f224:=Tryz.func196.trans (congrArg some (by kernel_rfl))
 f225:=Tryz.func197.trans (congrArg some (by kernel_rfl))
 f227:=Tryz.func141.trans (congrArg some (by kernel_rfl))
 f228:=Tryz.func169.trans (congrArg some (by kernel_rfl))
 f232:=Tryz.func144.trans (congrArg some (by kernel_rfl))
 f234:=Tryz.func145.trans (congrArg some (by kernel_rfl))
 f236:=Tryz.func146.trans (congrArg some (by kernel_rfl))
 f260:=Tryz.func176.trans (congrArg some (by kernel_rfl))
 f266:=Tryz.func178.trans (congrArg some (by kernel_rfl))
 f271:=Tryz.func171.trans (congrArg some (by kernel_rfl))
 t0:=Tryz.underlying0
 a0:=Tryz.isAgg0
 z0:=Tryz.sizeOf0
 v0:=Tryz.zeroValue0
 t3:=Tryz.underlying3
 a3:=Tryz.isAgg3
 z3:=Tryz.sizeOf3
 v3:=Tryz.zeroValue3
 t4:=Tryz.underlying4
 a4:=Tryz.isAgg4
 z4:=Tryz.sizeOf4
 v4:=Tryz.zeroValue4
 t5:=Tryz.underlying5
 a5:=Tryz.isAgg5
 z5:=Tryz.sizeOf5
 v5:=Tryz.zeroValue5
 t9:=Tryz.underlying9
 a9:=Tryz.isAgg9
 z9:=Tryz.sizeOf9
 v9:=Tryz.zeroValue9
 t21:=Tryz.underlying21
 a21:=Tryz.isAgg21
 z21:=Tryz.sizeOf21
 v21:=Tryz.zeroValue21
 t46:=Tryz.underlying115
 a46:=Tryz.isAgg115
 z46:=Tryz.sizeOf115
 v46:=Tryz.zeroValue115
 t105:=Tryz.underlying196
 a105:=Tryz.isAgg196
 z105:=Tryz.sizeOf196
 v105:=Tryz.zeroValue196
 t116:=Tryz.underlying182
 a116:=Tryz.isAgg182
 z116:=Tryz.sizeOf182
 t117:=Tryz.underlying183
 a117:=Tryz.isAgg183
 z117:=Tryz.sizeOf183
 v117:=Tryz.zeroValue183
 t119:=Tryz.underlying111
 a119:=Tryz.isAgg111
 z119:=Tryz.sizeOf111
 t124:=Tryz.underlying186
 a124:=Tryz.isAgg186
 z124:=Tryz.sizeOf186
 v124:=Tryz.zeroValue186
 t138:=Tryz.underlying113
 a138:=Tryz.isAgg113
 z138:=Tryz.sizeOf113
 v138:=Tryz.zeroValue113
 t139:=Tryz.underlying114
 a139:=Tryz.isAgg114
 z139:=Tryz.sizeOf114
 v139:=Tryz.zeroValue114
 g3:=by kernel_rfl
 g4:=by kernel_rfl }
open Go.RowKit in
theorem Tryz.strings_TrimRight_one (s:ByteArray) (c:UInt8) (hc:c.toNat<128) (w:World) (hs:s.size≤9223372036854775807) :
  Calls Tryz.prog 112 #[.string s,.string ⟨#[c]⟩] w fun e w'=>e=.returned (.string ⟨(Lib.trimRightB s.data.toList c).toArray⟩)∧w'=w:=Any.strings_TrimRight_one Jzu s c hc w hs
end Go.Proofs
set_option maxRecDepth 100000
set_option maxHeartbeats 2000000
namespace Go.LX
open Go Go.RowKit Go.Proofs
attribute [local irreducible] Al SWP Bi
theorem J4n (s:List UInt8):Det cx 111 [.p (.str s),.p (.str [48])] [] (.p (.str (Jqo s))) []:=by
 refine Jq2 (v:=.string ⟨⟨Jqo s⟩⟩) (enters_of Tryz.func111 krf rfl) rfl (fun β w Im=>PRep.str _) fun β Im w vs hg hf=>?_
 obtain ⟨v,u,rfl,h1,h2⟩:=fit2 hf;cases Ks h1;cases Ks h2;refine (Tryz.strings_TrimLeft_one ⟨⟨s⟩⟩ 48 de w).mono fun e w' ⟨h,hw⟩=>⟨h,by subst hw;exact Below.refl _ _⟩
theorem Jt8 (s:List UInt8) (c:UInt8) (hc:c.toNat<128) (hs:s.length≤9223372036854775807):Det cx 112 [.p (.str s),.p (.str [c])] [] (.p (.str (Lib.trimRightB s c))) []:=by
 refine Jq2 (v:=.string ⟨⟨Lib.trimRightB s c⟩⟩) (enters_of Tryz.func112 krf rfl) rfl (fun β w Im=>PRep.str _) fun β Im w vs hg hf=>?_
 obtain ⟨v,u,rfl,h1,h2⟩:=fit2 hf;cases Ks h1;cases Ks h2;refine (Tryz.strings_TrimRight_one ⟨⟨s⟩⟩ c hc w hs).mono fun e w' ⟨h,hw⟩=>⟨h,by subst hw;exact Below.refl _ _⟩
theorem J32 (s:List UInt8) (hs:s.length≤9223372036854775807):Det cx 112 [.p (.str s),.p (.str [48])] [] (.p (.str (Jqx s))) []:=Jt8 s 48 de hs
theorem Jwm (neg:Bool) (s:List UInt8) (e:Int) (hs:s.length≤1000000) :
  Det cx 90 [.p (.bool neg),.p (.str s),.p (.int .i64 e)] [] (.tup [.agg (make neg s e).1.pv,.int .i64 (make neg s e).2]) []:=by
 have hl:=Jy9 s;have hr:=Jze (Jqo s);(refine bgo Tryz.func90 ?_;simp only [go_sem,simprocAttr]);(repeat' (first | (apply iteI <;> intro h)|((first | (refine Jqa (Jw3 _ omg) ?_)|(refine Jqa (J4n _) ?_)|(refine Jqa (J32 _ omg) ?_)|(refine Jqa (J06 _ _ omg omg) ?_));simp only [go_sem,simprocAttr]) | fail))
 all_goals (try simp (disch:=omega) only [Aa,Qs,Ab,Jlh,Mf,Ja0,Jcc,Ja7,Jak] at *)
 ·simp [make, *,node0,Jst]
 ·simp [make, *,node0,Jst]
 ·simp [make, *,node0,Jst]
 ·simp [make, *,node0,Jst]
 ·simp [make, *,node0,Jst]
 ·rw [Jtb] at h;by_cases c1:e+((Jqo s).length - (Jqx (Jqo s)).length) < -1000
  ·simp [make, *,node0,Jst]
  ·have c2:1000<((Jqx (Jqo s)).length:Int)+(e+((Jqo s).length - (Jqx (Jqo s)).length)):=by omega
   simp [make, *,node0,Jst]
 ·rw [Jtb] at h;have c1:¬ e+((Jqo s).length - (Jqx (Jqo s)).length) < -1000:=by omega
  have c2:¬ 1000<((Jqx (Jqo s)).length:Int)+(e+((Jqo s).length - (Jqx (Jqo s)).length)):=by omega
  simp [make, *,node0,Jst]
theorem J0f {x c:UInt8} (hc:c≠x) (l:List UInt8):∀ r,(List.replicate r x ++ c :: l).dropWhile (· == x)=c :: l
 | 0=>by simp [List.dropWhile_cons,hc]
 | r+1=>by rw [List.replicate_succ,List.cons_append,List.dropWhile_cons];simp [J0f hc l r]
theorem Jz6 (x y:UInt8) (pre:List UInt8) (c:UInt8) (r:Nat):Jso x y pre c 0 r=pre ++ c :: List.replicate r x:=by simp [Jso]
theorem J2k (x y:UInt8) (pre:List UInt8) (c:UInt8) (r:Nat):Jso x y pre c r r=pre ++ c :: List.replicate r y:=by simp [Jso]
theorem Jyo {x c:UInt8} (hc:c≠x) (pre:List UInt8) (r:Nat):Lib.trimRightB (pre ++ c :: List.replicate r x) x=pre ++ [c]:=by
 unfold Lib.trimRightB;rw [List.reverse_append,List.reverse_cons,List.reverse_replicate,List.append_assoc];rw [show [c] ++ pre.reverse=c :: pre.reverse from rfl,J0f hc];simp
theorem J6z (x:UInt8) (r:Nat):Lib.trimRightB (List.replicate r x) x=[]:=by
 unfold Lib.trimRightB;rw [List.reverse_replicate]
 induction r with
 | zero=>rfl
 | succ r ih=>rw [List.replicate_succ,List.dropWhile_cons];simpa using ih
theorem J6p (k:Nat) (b:UInt8):Lib.repeatL [b] k=List.replicate k b:=by
 induction k with
 | zero=>rfl
 | succ k ih=>rw [Lib.repeatL,ih,List.replicate_succ];rfl
def upS (s:List UInt8):List UInt8:=if (Jvh s).head? = some 48 then (Jvh s).drop 1 else Jvh s
theorem Kav (g:Bool) (s:List UInt8) (e:Int):make g (48 :: s) e=make g s e:=by
 have h1:Jq4 (48 :: s)=Jq4 s:=by simp [Jvo,Pk,Ja8]
 have h2:Jqo (48 :: s)=Jqo s:=by simp [Jqo]
 unfold make;rw [h1,h2]
theorem Kao (g:Bool) (s:List UInt8) (e:Int):make g (upS s) e=make g (Jvh s) e:=by
 unfold upS;split
 ·rename_i h;cases hm:Jvh s with
  | nil=>rw [hm] at h;cases h
  | cons c l=>rw [hm] at h;cases h;rw [Kav];rfl
 ·rfl
theorem J6c {a:Int} (h0:0≤a) (h1:a<128):(Utf8.encode a).data.toList=[UInt8.ofNat a.toNat]:=by
 obtain ⟨n,rfl⟩:=Int.eq_ofNat_of_zero_le h0;have:∀ n<128,(Utf8.encode ((n:Nat):Int)).data.toList=[UInt8.ofNat n]:=by decide +kernel
 exact this n omg
theorem d_up (s:List UInt8) (hs:s.length≤10000) (hd:∀ c∈s,48≤c∧c≤57):Det cx 91 [.p (.str s)] [] (.p (.str (upS s))) []:=by
 obtain ⟨pre,c,r,h1,h2,h3,h4⟩:=J44 s;rw [Jz6] at h1;rw [J2k] at h4;have hT:=Jt8 s 57 de omg;cases pre with
 | nil =>
  rw [List.nil_append] at h1 h4;injection h1 with e1 e2
  subst e1;have hu:upS s=[49] ++ Lib.repeatL [48] s.length:=by
   unfold upS;rw [h4,J6p,e2,List.length_replicate];simp
  rw [hu];rw [e2,J6z,← e2] at hT;have hR:=Juw [48] s.length omg (by simp;omega);have w1:IntKind.i64.wrap ((s.length:Int) - 0)=(s.length:Int):=by rw [Aa omg omg];omega
  have hrl:(Lib.repeatL [48] s.length).length=s.length:=by rw [Lib.repeatL_length];simp
  generalize Lib.repeatL [48] s.length=z at *
  (refine bgo Tryz.func91 ?_;simp only [go_sem,simprocAttr]);(repeat' (first | ((first | (refine Jqa (hT) ?_)|(refine Jqa (hR) ?_));simp only [go_sem,simprocAttr,w1]) | fail));omega
 | cons a p =>
  rw [List.cons_append] at h1 h4;injection h1 with e1 e2
  subst e1;have hcm:c∈s:=by rw [e2];simp
  have hcl:=hd c hcm;have hcn:48≤c.toNat∧c.toNat≤57:=⟨UInt8.le_iff_toNat_le.1 hcl.1,UInt8.le_iff_toNat_le.1 hcl.2⟩
  have hu:upS s=p ++ [c+1] ++ Lib.repeatL [48] r:=by
   unfold upS;rw [h4,J6p];simp
  rw [hu];rw [e2,Jyo h2,← e2] at hT;have hlen:s.length=p.length+1+r:=by rw [e2];simp;omega
  have hR:=Juw [48] r omg (by simp;omega);have w1:IntKind.i64.wrap ((s.length:Int) - ((p.length+1:Nat):Int))=(r:Int):=by rw [Aa omg omg];omega
  have hrl:(Lib.repeatL [48] r).length=r:=by rw [Lib.repeatL_length];simp
  have hpl:(p ++ [c]).length=p.length+1:=by simp
  have w2:IntKind.i64.wrap (((p.length+1:Nat):Int) - 1)=(p.length:Int):=by rw [Aa omg omg];omega
  have hat:at_ s p.length=c.toNat:=by rw [e2];simp [at_,List.getD_eq_getElem?_getD]
  have htk:s.take p.length=p:=by rw [e2];simp
  have c0:(((p.length+1:Nat):Int)=0)=False:=eq_false omg;have w3:IntKind.u8.wrap ((c.toNat:Int)+1)=((c.toNat+1:Nat):Int):=by rw [Ab omg omg];omega
  have w4:IntKind.i32.wrap ((c.toNat+1:Nat):Int)=((c.toNat+1:Nat):Int):=Qs omg omg;have he:(Utf8.encode ((c.toNat+1:Nat):Int)).data.toList=[c+1]:=by
   rw [J6c omg omg,Int.toNat_natCast];rfl
  generalize Lib.repeatL [48] r=z at *
  (refine bgo Tryz.func91 ?_;simp only [go_sem,simprocAttr]);(repeat' (first | (refine Jqd ?_)|((first | (refine Jql ?_)|(refine Jqa (hT) ?_)|(refine Jqa (hR) ?_));simp only [go_sem,simprocAttr,hpl,w1,w2,hat,htk,c0,w3,w4,he,Int.toNat_natCast]) | fail));rw [List.length_append,List.length_cons,List.length_nil];omega
theorem d_down (s:List UInt8) (hs:s.length≤10000) (h0:∃ c∈s,c≠48) (hd:∀ c∈s,48≤c∧c≤57):Det cx 92 [.p (.str s)] [] (.p (.str (Juf s))) []:=by
 obtain ⟨p,c,r,h1,h2,h3,h4⟩:=J5j s h0;rw [Jz6] at h1;rw [J2k] at h4;have hT:=Jt8 s 48 de omg;have hcl:=hd c h3;have hcn:48≤c.toNat∧c.toNat≤57:=⟨UInt8.le_iff_toNat_le.1 hcl.1,UInt8.le_iff_toNat_le.1 hcl.2⟩
 rw [h4];rw [h1,Jyo h2,← h1] at hT;have hlen:s.length=p.length+1+r:=by rw [h1];simp;omega
 have hR:=Juw [57] r omg (by simp;omega);have w1:IntKind.i64.wrap ((s.length:Int) - ((p.length+1:Nat):Int))=(r:Int):=by rw [Aa omg omg];omega
 have hrl:(Lib.repeatL [57] r).length=r:=by rw [Lib.repeatL_length];simp
 rw [show p ++ (c - 1) :: List.replicate r 57=p ++ [c - 1] ++ Lib.repeatL [57] r by rw [J6p];simp];have hpl:(p ++ [c]).length=p.length+1:=by simp
 have w2:IntKind.i64.wrap (((p.length+1:Nat):Int) - 1)=(p.length:Int):=by rw [Aa omg omg];omega
 have hat:at_ s p.length=c.toNat:=by rw [h1];simp [at_,List.getD_eq_getElem?_getD]
 have htk:s.take p.length=p:=by rw [h1];simp
 have c0:(((p.length+1:Nat):Int)=0)=False:=eq_false omg;have w3:IntKind.u8.wrap ((c.toNat:Int) - 1)=((c.toNat - 1:Nat):Int):=by rw [Ab omg omg];omega
 have w4:IntKind.i32.wrap ((c.toNat - 1:Nat):Int)=((c.toNat - 1:Nat):Int):=Qs omg omg;have he:(Utf8.encode ((c.toNat - 1:Nat):Int)).data.toList=[c - 1]:=by
  rw [J6c omg omg,Int.toNat_natCast];congr 1;refine UInt8.toNat_inj.1 ?_;have:(1:UInt8)≤c:=UInt8.le_iff_toNat_le.2 (by show 1≤c.toNat;omega);rw [UInt8.toNat_sub_of_le _ _ this];show (UInt8.ofNat (c.toNat - 1)).toNat=c.toNat - 1;rw [UInt8.toNat_ofNat'];omega
 generalize Lib.repeatL [57] r=z at *
 (refine bgo Tryz.func92 ?_;simp only [go_sem,simprocAttr]);(repeat' (first | (refine Jqd ?_)|((first | (refine Jql ?_)|(refine Jqa (hT) ?_)|(refine Jqe (hR) ?_));simp only [go_sem,simprocAttr,hpl,w1,w2,hat,htk,w3,w4,he,Int.toNat_natCast]) | fail));rw [List.length_append,List.length_cons,List.length_nil];omega
end Go.LX
