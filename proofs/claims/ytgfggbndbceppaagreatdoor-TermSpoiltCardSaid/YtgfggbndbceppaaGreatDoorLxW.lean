/-
  DERIVED: THE SHELF's CONTRACTS AT THIS DUMP, IN PLAIN WORDS (tools/lay-plain.mjs out of 'LxShEN.lean', which tools/lay-shelf.mjs wrote): THE SAME DECLARATIONS UNDER THE SAME NAMES: 'import', 'namespace', 'open', 'def', 'theorem' AND NOTHING ELSE: no command of the shelf's: FOR A HAND-IN. Each laying: the table of numbers ('.._ren') and one theorem, a field a fact of the dump's own or the kernel's comparison; each contract: ONE APPLICATION.
-/
import Derived.Shelf.Strings.Builder1
import Derived.Shelf.Strings.Builder2
import Derived.Shelf.Strings.OnBuilder
import Derived.Shelf.Strings.Trim
import Derived.Shelf.Small.Utf8
import Derived.Shelf.Small.Strs
import Derived.Shelf.Small.Wraps
import Derived.Shelf.Strings.BuilderF
import Derived.Shelf.Strconv.Atoi
import Derived.Shelf.Strconv.Itoa0
import Derived.Shelf.Strconv.Itoa1
import Derived.Shelf.LaysM
import Derived.Shelf.Strconv.Itoa2
import Derived.Shelf.Strconv.Itoa3
import Derived.Shelf.Strconv.Itoa4
import Derived.Shelf.Strconv.AtoiErrFast
import Derived.Shelf.Strconv.ParseIntEmpty
import Derived.Shelf.Strconv.AtoiFail
import Derived.Shelf.Strconv.Clone
import Derived.Shelf.Strconv.SyntaxError
import Derived.Shelf.LaysC
import Derived.Shelf.Strconv.ToError
import Derived.Shelf.Strconv.Lower
import Derived.Shelf.Strconv.ParseUint10
import Derived.Shelf.Strconv.ParseUint10Empty
import Derived.Shelf.Strconv.ParseUint10Any
import Derived.Shelf.Strconv.ParseInt10
import Derived.Shelf.Strconv.AtoiLong
import Derived.Shelf.Strconv.AtoiInnerAll
import Derived.Shelf.Strconv.RangeError
import Derived.Shelf.Strconv.ToErrorRange
import Derived.Shelf.Strconv.AtoiAll
import Derived.Shelf.Strconv.ErrVarAll
import Derived.Shelf.Strconv.ParseUintEmpty
import Derived.Shelf.Strings.Search1
import Derived.Shelf.GgClosure.StringsIndexFunc
import Derived.Shelf.GgClosure.StringsTrimFunc
import Derived.Shelf.Strings.Prefix
import Derived.Shelf.Unicode.Decode
import Derived.Shelf.Strings.Runes
import Derived.Shelf.Strings.IndexAny
import Derived.Shelf.Strings.AsciiSet
import Derived.Shelf.Strings.IndexAnyAll
import Derived.Shelf.Bits.Mul64
import Derived.Shelf.Strings.Repeat
import Derived.Shelf.Unicode.DecodeSlow
import Derived.Shelf.Unicode.DecodeAny
import Derived.Shelf.Unicode.DecodeLast
import Derived.Shelf.Strings.FuncGrows
import Derived.Ground.Names2Prog
import Derived.Shelf.Slices.SearchI
import Derived.Test.YtgfggbndbceppaaGreatDoorProg
import Derived.Test.YtgfggbndbceppaaGreatDoorLxT
import Derived.Test.YtgfggbndbceppaaGreatDoorLxO
import Derived.Test.YtgfggbndbceppaaGreatDoorLxU
import Derived.Test.YtgfggbndbceppaaGreatDoorLxV
import Derived.Test.YtgfggbndbceppaaGreatDoorLxQ
import Derived.Test.YtgfggbndbceppaaGreatDoorLxP
import Derived.Test.YtgfggbndbceppaaGreatDoorLxS
set_option linter.unusedSimpArgs false
set_option linter.unusedVariables false
set_option linter.unusedSectionVars false
set_option linter.unnecessarySimpa false
namespace Go.Proofs
open Go.Shelf
def Tryz_lays156_renX:Go.Shelf.Ren:=⟨fun | 156=>79 | 165=>111 | 166=>112 | 169=>94 | 240=>136 | 241=>137 | 276=>166 | 277=>167 | n=>n,fun | 31=>59 | 9=>9 | 3=>3 | 4=>4 | 0=>0 | 20=>20 | 72=>107 | 76=>126 | 70=>104 | 37=>105 | 75=>125 | 127=>144 | 164=>180 | 5=>5 | 80=>111 | n=>n,fun | n=>n⟩
theorem Ju0:Go.Proofs.Lays.n156 Tryz.prog Tryz_lays156_renX:={
 mixed:=by kernel_rfl
 f156:=Tryz.func79.trans (congrArg some (by kernel_rfl))
 f165:=Tryz.func111.trans (congrArg some (by kernel_rfl))
 f166:=Tryz.func112.trans (congrArg some (by kernel_rfl))
 f169:=Tryz.func94.trans (congrArg some (by kernel_rfl))
 f240:=Tryz.func136.trans (congrArg some (by kernel_rfl))
 f241:=Tryz.func137.trans (congrArg some (by kernel_rfl))
 f276:=Tryz.func166.trans (congrArg some (by kernel_rfl))
 f277:=Tryz.func167.trans (congrArg some (by kernel_rfl))
 t0:=Tryz.underlying0
 a0:=Tryz.isAgg0
 z0:=Tryz.sizeOf0
 v0:=Tryz.zeroValue0
 t3:=Tryz.underlying3
 a3:=Tryz.isAgg3
 z3:=Tryz.sizeOf3
 v3:=Tryz.zeroValue3
 t4:=Tryz.underlying4
 a4:=Tryz.isAgg4
 z4:=Tryz.sizeOf4
 v4:=Tryz.zeroValue4
 t9:=Tryz.underlying9
 a9:=Tryz.isAgg9
 z9:=Tryz.sizeOf9
 v9:=Tryz.zeroValue9
 t20:=Tryz.underlying20
 a20:=Tryz.isAgg20
 z20:=Tryz.sizeOf20
 v20:=Tryz.zeroValue20
 t31:=Tryz.underlying59
 a31:=Tryz.isAgg59
 z31:=Tryz.sizeOf59
 v31:=Tryz.zeroValue59
 t37:=Tryz.underlying105
 a37:=Tryz.isAgg105
 z37:=Tryz.sizeOf105
 v37:=Tryz.zeroValue105
 t70:=Tryz.underlying104
 a70:=Tryz.isAgg104
 z70:=Tryz.sizeOf104
 v70:=Tryz.zeroValue104
 t72:=Tryz.underlying107
 a72:=Tryz.isAgg107
 z72:=Tryz.sizeOf107
 v72:=Tryz.zeroValue107
 t75:=Tryz.underlying125
 a75:=Tryz.isAgg125
 z75:=Tryz.sizeOf125
 v75:=Tryz.zeroValue125
 t76:=Tryz.underlying126
 a76:=Tryz.isAgg126
 z76:=Tryz.sizeOf126
 v76:=Tryz.zeroValue126
 t127:=Tryz.underlying144
 a127:=Tryz.isAgg144
 z127:=Tryz.sizeOf144
 v127:=Tryz.zeroValue144
 t164:=Tryz.underlying180
 a164:=Tryz.isAgg180
 z164:=Tryz.sizeOf180
 v164:=Tryz.zeroValue180 }
theorem Jsb:Builder.Extra Tryz.prog Tryz_lays156_renX:={
 sizeBuilder:=by kernel_rfl
 liesBuilder:=by kernel_rfl
 t5:=Tryz.underlying5
 a5:=Tryz.isAgg5
 z5:=Tryz.sizeOf5
 v5:=Tryz.zeroValue5
 infoByte:=by kernel_rfl
 cellsByte:=by kernel_rfl
 sizeByte:=by kernel_rfl
 neB5:=by decide }
open Go.RowKit in
theorem Tryz.strings_Join_none (a:Option Addr) (c:Nat) (sep:ByteArray) (w:World) :
  Calls Tryz.prog 79 #[.slice a 0 c,.string sep] w fun e w'=>e=.returned (.string ⟨#[]⟩)∧w'=w:=Any.strings_Join_none Ju0 Jsb a c sep w
open Go.RowKit in
theorem Tryz.strings_Join (bk o c:Nat) (xs:List ByteArray) (sep:ByteArray) (w:World) (hcells:∀ (j:Nat) x,xs[j]? = some x→w.cell? ⟨bk,o+j,none⟩=some (.string x)) (hbk:bk<w.heap.size) (hN:xs.length≤140737488355328) (hcap:xs.length≤c) (hlen:(Lib.join (xs.map (·.data.toList)) sep.data.toList).length≤140737488355328) :
  Calls Tryz.prog 79 #[.slice (some ⟨bk,o,none⟩) xs.length c,.string sep] w fun e w'=>e=.returned (.string ⟨(Lib.join (xs.map (·.data.toList)) sep.data.toList).toArray⟩)∧Below w.heap.size w w':=Any.strings_Join Ju0 Jsb bk o c xs sep w hcells hbk hN hcap hlen
def Tryz_lays105_renX:Go.Shelf.Ren:=⟨fun | 105=>162 | 212=>188 | 99=>174 | 165=>111 | 166=>112 | 170=>189 | 169=>94 | 263=>212 | 264=>213 | 206=>205 | 240=>136 | 241=>137 | 276=>166 | 277=>167 | n=>n,fun | 9=>9 | 3=>3 | 4=>4 | 20=>20 | 0=>0 | 46=>140 | 109=>202 | 5=>5 | 72=>107 | 76=>126 | 51=>198 | 146=>220 | 53=>165 | 148=>222 | 70=>104 | 37=>105 | 75=>125 | 127=>144 | 164=>180 | 80=>111 | n=>n,fun | n=>n⟩
theorem Jyt:Go.Proofs.Lays.n105 Tryz.prog Tryz_lays105_renX:={
 mixed:=by kernel_rfl
 f99:=Tryz.func174.trans (congrArg some (by kernel_rfl))
 f105:=Tryz.func162.trans (congrArg some (by kernel_rfl))
 f165:=Tryz.func111.trans (congrArg some (by kernel_rfl))
 f166:=Tryz.func112.trans (congrArg some (by kernel_rfl))
 f169:=Tryz.func94.trans (congrArg some (by kernel_rfl))
 f170:=Tryz.func189.trans (congrArg some (by kernel_rfl))
 f206:=Tryz.func205.trans (congrArg some (by kernel_rfl))
 f212:=Tryz.func188.trans (congrArg some (by kernel_rfl))
 f240:=Tryz.func136.trans (congrArg some (by kernel_rfl))
 f241:=Tryz.func137.trans (congrArg some (by kernel_rfl))
 f263:=Tryz.func212.trans (congrArg some (by kernel_rfl))
 f264:=Tryz.func213.trans (congrArg some (by kernel_rfl))
 f276:=Tryz.func166.trans (congrArg some (by kernel_rfl))
 f277:=Tryz.func167.trans (congrArg some (by kernel_rfl))
 t0:=Tryz.underlying0
 a0:=Tryz.isAgg0
 z0:=Tryz.sizeOf0
 v0:=Tryz.zeroValue0
 t3:=Tryz.underlying3
 a3:=Tryz.isAgg3
 z3:=Tryz.sizeOf3
 v3:=Tryz.zeroValue3
 t4:=Tryz.underlying4
 a4:=Tryz.isAgg4
 z4:=Tryz.sizeOf4
 v4:=Tryz.zeroValue4
 t5:=Tryz.underlying5
 a5:=Tryz.isAgg5
 z5:=Tryz.sizeOf5
 v5:=Tryz.zeroValue5
 t9:=Tryz.underlying9
 a9:=Tryz.isAgg9
 z9:=Tryz.sizeOf9
 v9:=Tryz.zeroValue9
 t20:=Tryz.underlying20
 a20:=Tryz.isAgg20
 z20:=Tryz.sizeOf20
 v20:=Tryz.zeroValue20
 t37:=Tryz.underlying105
 a37:=Tryz.isAgg105
 z37:=Tryz.sizeOf105
 v37:=Tryz.zeroValue105
 t46:=Tryz.underlying140
 a46:=Tryz.isAgg140
 z46:=Tryz.sizeOf140
 v46:=Tryz.zeroValue140
 t51:=Tryz.underlying198
 a51:=Tryz.isAgg198
 z51:=Tryz.sizeOf198
 v51:=Tryz.zeroValue198
 t53:=Tryz.underlying165
 a53:=Tryz.isAgg165
 z53:=Tryz.sizeOf165
 v53:=Tryz.zeroValue165
 t70:=Tryz.underlying104
 a70:=Tryz.isAgg104
 z70:=Tryz.sizeOf104
 v70:=Tryz.zeroValue104
 t72:=Tryz.underlying107
 a72:=Tryz.isAgg107
 z72:=Tryz.sizeOf107
 v72:=Tryz.zeroValue107
 t75:=Tryz.underlying125
 a75:=Tryz.isAgg125
 z75:=Tryz.sizeOf125
 v75:=Tryz.zeroValue125
 t76:=Tryz.underlying126
 a76:=Tryz.isAgg126
 z76:=Tryz.sizeOf126
 v76:=Tryz.zeroValue126
 t109:=Tryz.underlying202
 a109:=Tryz.isAgg202
 z109:=Tryz.sizeOf202
 v109:=Tryz.zeroValue202
 t127:=Tryz.underlying144
 a127:=Tryz.isAgg144
 z127:=Tryz.sizeOf144
 v127:=Tryz.zeroValue144
 t146:=Tryz.underlying220
 a146:=Tryz.isAgg220
 z146:=Tryz.sizeOf220
 v146:=Tryz.zeroValue220
 t148:=Tryz.underlying222
 a148:=Tryz.isAgg222
 z148:=Tryz.sizeOf222
 v148:=Tryz.zeroValue222
 t164:=Tryz.underlying180
 a164:=Tryz.isAgg180
 z164:=Tryz.sizeOf180
 v164:=Tryz.zeroValue180 }
theorem Jtt:Builder.Extra Tryz.prog Tryz_lays105_renX:={
 sizeBuilder:=by kernel_rfl
 liesBuilder:=by kernel_rfl
 t5:=Tryz.underlying5
 a5:=Tryz.isAgg5
 z5:=Tryz.sizeOf5
 v5:=Tryz.zeroValue5
 infoByte:=by kernel_rfl
 cellsByte:=by kernel_rfl
 sizeByte:=by kernel_rfl
 neB5:=by decide }
open Go.RowKit Go.Lib in
theorem Tryz.strings_Repeat (s:ByteArray) (c:Nat) (w:World) (hc:c≤9223372036854775807) (hlen:s.size * c≤140737488355328) :
  Calls Tryz.prog 162 #[.string s,.int .i64 c] w fun e w'=>e=.returned (.string ⟨(Lib.repeatL s.data.toList c).toArray⟩)∧Below w.heap.size w w':=Any.strings_Repeat Jyt Jtt s c w hc hlen
end Go.Proofs
set_option maxRecDepth 100000
set_option maxHeartbeats 2000000
namespace Go.LX
open Go Go.RowKit Go.Proofs
attribute [local irreducible] Al SWP Bi
theorem J1b (s:List UInt8) (n:Nat) (hn:n≤9223372036854775807) (hl:s.length * n≤140737488355328):Det cx 162 [.p (.str s),.p (.int .i64 n)] [] (.p (.str (Lib.repeatL s n))) []:=by
 refine Jrd (v:=.string ⟨⟨Lib.repeatL s n⟩⟩) (enters_of Tryz.func162 kr rfl) rfl (fun β w Im=>PRep.str _) fun β Im w vs hg hf=>?_
 obtain ⟨v,u,rfl,h1,h2⟩:=fit2 hf;cases Ks h1;cases Mz h2;exact Tryz.strings_Repeat ⟨⟨s⟩⟩ n w hn hl
theorem J4t (s:List UInt8) (n:Int) (h0:0≤n) (hn:n≤9223372036854775807) (hl:s.length * n.toNat≤140737488355328):Det cx 162 [.p (.str s),.p (.int .i64 n)] [] (.p (.str (Lib.repeatL s n.toNat))) []:=by
 have:=J1b s n.toNat omg hl
 rwa [Int.toNat_of_nonneg h0] at this
theorem J2h (n:Node) (hn:n.small):Det cx 161 [.p (.agg n.pv)] [] (.p (.str (Jq5 n))) []:=by
 obtain ⟨a1,a2,a3⟩:=hn;have hr:∀ k,(Lib.repeatL [48] k).length=k:=Juc;have w1:IntKind.i64.wrap (1 - n.e)=1 - n.e:=Aa omg omg;have w2:IntKind.i64.wrap (1 - n.e - n.s.length)=1 - n.e - n.s.length:=Aa omg omg;have w3:IntKind.i64.wrap (n.s.length+n.e)=n.s.length+n.e:=Aa omg omg;have w4:IntKind.i64.wrap (((1 - n.e - n.s.length).toNat:Int)+n.s.length+n.e)=((1 - n.e - n.s.length).toNat:Int)+n.s.length+n.e:=Aa omg omg;have hmax:max (1 - n.e - (n.s.length:Int)) 0=((1 - n.e - n.s.length).toNat:Nat):=by omega
 have hi:=Jrx (n:=n.e) omg omg;(refine bgo Tryz.func161 ?_;simp only [go_sem,simprocAttr,Jsh,w1,w2,w3,hmax]);(repeat' (first | (apply iteI <;> intro h)|(refine Jqd ?_)|((first | (refine Jqi ?_)|(refine Jqa (J4t [48] n.e omg omg (by simp;omega)) ?_)|(refine Jqa (J1b [48] _ omg (by simp;omega)) ?_)|(refine Jqa (N0 n.e omg omg) ?_));simp only [go_sem,simprocAttr,w4,hr,List.length_append,Int.natCast_add])|(exfalso;omega)))
 all_goals (try (refine ⟨by simp [hr];omega,by simp [hr];omega,by omega,by omega,by simp [hr];omega,?_⟩))
 all_goals clear hmax w1 w2 w3 w4
 all_goals simp [Jq5,Jq7, *]
def Juj (m:Nat):List UInt8:=if m<10 then [] else Lib.decDigits (m / 10)
theorem Jxg (m:Nat):Lib.decDigits m=Juj m ++ [UInt8.ofNat (48+m % 10)]:=by
 rw [Lib.decDigits];unfold Juj;split
 ·rw [Nat.mod_eq_of_lt ‹_›];rfl
 ·rfl
theorem tdivN (m:Nat):((m:Int)).tdiv 10=((m / 10:Nat):Int):=rfl
theorem J64 (m:Nat):(-(m:Int)).tdiv 10 = -((m / 10:Nat):Int):=by rw [Int.neg_tdiv];rfl
theorem tmodN (m:Nat):((m:Int)).tmod 10=((m % 10:Nat):Int):=rfl
theorem J6n (m:Nat):(-(m:Int)).tmod 10 = -((m % 10:Nat):Int):=by rw [Int.neg_tmod];rfl
theorem Jxw (m:Nat):Lib.itoa (m:Int)=Lib.decDigits m:=by
 unfold Lib.itoa;rw [if_neg omg];simp
theorem Jxz (m:Nat) (h:0<m):Lib.itoa (-(m:Int))=45 :: Lib.decDigits m:=by
 unfold Lib.itoa;rw [if_pos omg];simp
theorem Jt1 (m:Nat):u8of (48+((m % 10:Nat):Int))=UInt8.ofNat (48+m % 10):=by
 unfold u8of;congr 1;omega
theorem J35:∀ (k:Nat) (n:Int),n.natAbs≤k→-9223372036854775808≤n→n≤9223372036854775807→Det cx 129 [.p (.int .i64 n)] [] (.p (.str (Lib.itoa n))) []:=by
 intro k
 induction k using Nat.strongRecOn with
 | _ k ih =>
 intro n hk h1 h2;have hi:=Jrx (n:=n) omg omg;by_cases h0:0≤n
 ·obtain ⟨m,rfl⟩:∃ m:Nat,n=m:=⟨n.toNat,by omega⟩
  rw [Jxw] at hi ⊢;have w1:IntKind.i64.wrap (48+((m % 10:Nat):Int))=48+((m % 10:Nat):Int):=Aa omg omg;have c1:¬ (m:Int)<0:=by omega
  have c2:-10<(m:Int):=by omega
  (refine bgo Tryz.func129 ?_;simp only [go_sem,simprocAttr,w1,tmodN,Jt1,c1,c2]);refine SWP.loop (fun x:Nat×List UInt8=>⟨Ba 47 [(0,.p (.int .i64 (x.1:Int))),(3,.p (.str x.2))],[]⟩) (fun x=>x.1≤m∧Lib.decDigits m=Juj x.1 ++ x.2) (fun x=>x.1) (m,[UInt8.ofNat (48+m % 10)]) Jqe ⟨Nat.le_refl _,Jxg m⟩ ?_;rintro ⟨q,acc⟩ ⟨g1,g2⟩;have hl:acc.length≤21:=by rw [g2] at hi;simp at hi;omega
  simp only;have w2:IntKind.i64.wrap (48+((q / 10 % 10:Nat):Int))=48+((q / 10 % 10:Nat):Int):=Aa omg omg;have w3:IntKind.i64.wrap ((q / 10:Nat):Int)=((q / 10:Nat):Int):=Aa omg omg;(refine lws ?_;simp only [go_sem,simprocAttr,tmodN,Jt1,tdivN,w2,w3]);(repeat' (first | (apply iteI <;> intro h)|(refine Jqd ?_) | fail))
  ·refine ⟨(q / 10,UInt8.ofNat (48+q / 10 % 10) :: acc),⟨by simp at g1 ⊢;omega,?_⟩,by simp;omega,Jqe⟩;rw [g2];simp only;have:Juj q=Lib.decDigits (q / 10):=by unfold Juj;rw [if_neg omg]
   rw [this,Jxg];simp
  ·rw [g2];simp only;unfold Juj;rw [if_pos omg];rfl
 ·obtain ⟨m,rfl⟩:∃ m:Nat,n = -(m:Int):=⟨n.natAbs,by omega⟩
  have hm0:0<m:=by omega
  have c1:-(m:Int)<0:=by omega
  have w2:IntKind.i64.wrap (-((m / 10:Nat):Int)) = -((m / 10:Nat):Int):=Aa omg omg;have w3:IntKind.i64.wrap (48 - -((m % 10:Nat):Int))=48+((m % 10:Nat):Int):=by rw [Aa omg omg];omega
  have hi3:=Jrx (n:=-((m / 10:Nat):Int)) omg omg;(refine bgo Tryz.func129 ?_;simp only [go_sem,simprocAttr,c1]);(repeat' (first | (apply iteI <;> intro h)|(refine Jqd ?_)|((first | (refine Jqi ?_)|(refine Jqb (ih (m / 10) omg (-((m / 10:Nat):Int)) omg omg omg) ?_));simp only [go_sem,simprocAttr,w2,w3,J64,J6n,Jt1]) | fail))
  ·rw [Aa omg omg,Jxz m hm0,Jxg,show (48 - -(m:Int))=48+((m % 10:Nat):Int) by omega,Jt1];unfold Juj;rw [if_pos omg];rfl
  ·rw [Jxz m hm0,Jxz (m / 10) omg,Jxg m];unfold Juj;rw [if_neg omg];rfl
theorem Jur (k:Nat):Lib.repeatL [48] (k+1)=Lib.repeatL [48] k ++ [48]:=by
 induction k with
 | zero=>rfl
 | succ k ih =>
  show [48] ++ Lib.repeatL [48] (k+1)=_
  conv=>lhs;rw [ih]
  show _=([48] ++ Lib.repeatL [48] k) ++ [48]
  rw [List.append_assoc]
theorem Jsc:Lib.repeatL [48] 0=[]:=rfl
theorem Jup (k:Nat):Lib.repeatL [48] (k+1)=48 :: Lib.repeatL [48] k:=rfl
theorem J2v (n:Node) (hn:n.small):Det cx 99 [.p (.agg n.pv)] [] (.p (.str (Jq5 n))) []:=by
 obtain ⟨a1,a2,a3⟩:=hn;have hr:∀ k,(Lib.repeatL [48] k).length=k:=Juc;have w1:IntKind.i64.wrap (1 - n.e)=1 - n.e:=Aa omg omg;have w3:IntKind.i64.wrap (n.s.length+n.e)=n.s.length+n.e:=Aa omg omg;have hi:=Jrx (n:=n.e) omg omg;have hsg:(Jq7 n).length≤1:=by unfold Jq7;split <;> simp
 (refine bgo Tryz.func99 ?_;simp only [go_sem,simprocAttr,Jsh,w3]);(repeat' (first | (apply iteI <;> intro h)|(refine Jqd ?_)|((refine Jqa (J35 _ n.e (Nat.le_refl _) omg omg) ?_);simp only [go_sem,simprocAttr,List.length_append])|(exfalso;omega)))
 ·simp [Jq5, *]
 ·refine SWP.loop (fun k:Nat=>⟨Ba 76 [(1,.ptr 1 0 0),(3,.p (.str (Jq7 n))),(4,.p (.str (n.s ++ Lib.repeatL [48] k))),(5,.p (.int .i64 k))],[(1,.var 35 (n.pv.map .p))]⟩) (fun k=>(k:Int)≤n.e) (fun k=>(n.e - k).toNat) 0 (Jqy (by simp only [Ap,Ar,Ao,Aj,Af,Nat.reduceEqDiff,reduceIte,Nat.reduceLT,Nat.reduceLeDiff];simp (disch:=omega) [Ai,Au,Aa,Jq7,Jsc,Jur, *]) (by simp [Az,A3,Aw,Am,Ai,Jsh]) (by simp [Ay])) omg ?_;intro k hk;(refine lws ?_;simp only [go_sem,simprocAttr,Jsh,hr,List.length_append]);(repeat' (first | (apply iteI <;> intro h)|(refine Jqd ?_) | fail))
  ·exact ⟨k+1,by omega,by omega,(Jqy (by simp only [Ap,Ar,Ao,Aj,Af,Nat.reduceEqDiff,reduceIte,Nat.reduceLT,Nat.reduceLeDiff];simp (disch:=omega) [Ai,Au,Aa,Jq7,Jsc,Jur, *]) (by simp [Az,A3,Aw,Am,Ai,Jsh]) (by simp [Ay]))⟩
  ·have e:k=n.e.toNat:=by omega
   subst e;simp [Jq5, *]
 ·simp [Jq5,Jq7, *]
 ·refine SWP.loop (fun k:Nat=>⟨Ba 76 [(1,.ptr 1 0 0),(3,.p (.str (Jq7 n))),(4,.p (.str (Lib.repeatL [48] k ++ n.s)))],[(1,.var 35 (n.pv.map .p))]⟩) (fun k=>k≤(1 - n.e - n.s.length).toNat) (fun k=>(1 - n.e - n.s.length).toNat - k) 0 (Jqy (by simp only [Ap,Ar,Ao,Aj,Af,Nat.reduceEqDiff,reduceIte,Nat.reduceLT,Nat.reduceLeDiff];simp (disch:=omega) [Ai,Au,Aa,Jq7,Jsc,Jup, *]) (by simp [Az,A3,Aw,Am,Ai,Jsh]) (by simp [Ay])) omg ?_;intro k hk;have hk2:=hk;have w4:IntKind.i64.wrap ((k:Int)+n.s.length+n.e)=(k:Int)+n.s.length+n.e:=Aa omg omg;(refine lws ?_;simp only [go_sem,simprocAttr,Jsh,w1,hr,List.length_append,Int.natCast_add]);(repeat' (first | (apply iteI <;> intro h)|(refine Jqd ?_)|((refine Jqi ?_);simp only [go_sem,simprocAttr,hr,List.length_append,Int.natCast_add,w4]) | fail))
  ·exact ⟨k+1,by omega,by omega,(Jqy (by simp only [Ap,Ar,Ao,Aj,Af,Nat.reduceEqDiff,reduceIte,Nat.reduceLT,Nat.reduceLeDiff];simp (disch:=omega) [Ai,Au,Aa,Jq7,Jsc,Jup, *]) (by simp [Az,A3,Aw,Am,Ai,Jsh]) (by simp [Ay]))⟩
  ·have e:(1 - n.e - n.s.length).toNat=k:=by omega
   refine ⟨by simp [hr];omega,by simp [hr];omega,by omega,by omega,by simp [hr];omega,?_⟩;simp [Jq5, *]
 ·simp [Jq5,Jq7, *]
 ·simp [Jq5, *]
 ·refine SWP.loop (fun k:Nat=>⟨Ba 76 [(1,.ptr 1 0 0),(3,.p (.str (Jq7 n))),(4,.p (.str (n.s ++ Lib.repeatL [48] k))),(5,.p (.int .i64 k))],[(1,.var 35 (n.pv.map .p))]⟩) (fun k=>(k:Int)≤n.e) (fun k=>(n.e - k).toNat) 0 (Jqy (by simp only [Ap,Ar,Ao,Aj,Af,Nat.reduceEqDiff,reduceIte,Nat.reduceLT,Nat.reduceLeDiff];simp (disch:=omega) [Ai,Au,Aa,Jq7,Jsc,Jur, *]) (by simp [Az,A3,Aw,Am,Ai,Jsh]) (by simp [Ay])) omg ?_;intro k hk;(refine lws ?_;simp only [go_sem,simprocAttr,Jsh,hr,List.length_append]);(repeat' (first | (apply iteI <;> intro h)|(refine Jqd ?_) | fail))
  ·exact ⟨k+1,by omega,by omega,(Jqy (by simp only [Ap,Ar,Ao,Aj,Af,Nat.reduceEqDiff,reduceIte,Nat.reduceLT,Nat.reduceLeDiff];simp (disch:=omega) [Ai,Au,Aa,Jq7,Jsc,Jur, *]) (by simp [Az,A3,Aw,Am,Ai,Jsh]) (by simp [Ay]))⟩
  ·have e:k=n.e.toNat:=by omega
   subst e;simp [Jq5, *]
 ·simp [Jq5,Jq7, *]
 ·refine SWP.loop (fun k:Nat=>⟨Ba 76 [(1,.ptr 1 0 0),(3,.p (.str (Jq7 n))),(4,.p (.str (Lib.repeatL [48] k ++ n.s)))],[(1,.var 35 (n.pv.map .p))]⟩) (fun k=>k≤(1 - n.e - n.s.length).toNat) (fun k=>(1 - n.e - n.s.length).toNat - k) 0 (Jqy (by simp only [Ap,Ar,Ao,Aj,Af,Nat.reduceEqDiff,reduceIte,Nat.reduceLT,Nat.reduceLeDiff];simp (disch:=omega) [Ai,Au,Aa,Jq7,Jsc,Jup, *]) (by simp [Az,A3,Aw,Am,Ai,Jsh]) (by simp [Ay])) omg ?_;intro k hk;have hk2:=hk;have w4:IntKind.i64.wrap ((k:Int)+n.s.length+n.e)=(k:Int)+n.s.length+n.e:=Aa omg omg;(refine lws ?_;simp only [go_sem,simprocAttr,Jsh,w1,hr,List.length_append,Int.natCast_add]);(repeat' (first | (apply iteI <;> intro h)|(refine Jqd ?_)|((refine Jqi ?_);simp only [go_sem,simprocAttr,hr,List.length_append,Int.natCast_add,w4]) | fail))
  ·exact ⟨k+1,by omega,by omega,(Jqy (by simp only [Ap,Ar,Ao,Aj,Af,Nat.reduceEqDiff,reduceIte,Nat.reduceLT,Nat.reduceLeDiff];simp (disch:=omega) [Ai,Au,Aa,Jq7,Jsc,Jup, *]) (by simp [Az,A3,Aw,Am,Ai,Jsh]) (by simp [Ay]))⟩
  ·have e:(1 - n.e - n.s.length).toNat=k:=by omega
   refine ⟨by simp [hr];omega,by simp [hr];omega,by omega,by omega,by simp [hr];omega,?_⟩;simp [Jq5, *]
 ·simp [Jq5,Jq7, *]
theorem Jx3 {sep:List UInt8} {x:List UInt8}:∀ {l:List (List UInt8)},l≠[]→Jse sep (l ++ [x])=Jse sep l ++ sep ++ x
 | [],h=>absurd rfl h
 | [a],_=>rfl
 | a :: b :: l,_=>by
  have:=Jx3 (sep:=sep) (x:=x) (l:=b :: l) sm;simp only [List.cons_append] at this ⊢;rw [Jse,this,Jse];simp only [List.append_assoc]
theorem Jwu {op:Int} {l:List PTx} {sep:List UInt8} {p:PTx} (h:l[0]? = some p):Jri op (l.take 1) sep=oneT op p:=by
 cases l with
 | nil=>cases h
 | cons q l=>simp at h;subst h;rfl
theorem Jyd {op:Int} {l:List PTx} {sep:List UInt8} {p:PTx} {i:Nat} (h:l[i]? = some p) (hi:0<i):Jri op (l.take (i+1)) sep=Jri op (l.take i) sep ++ sep ++ oneT op p:=by
 have hl:=(List.getElem?_eq_some_iff.1 h).1;unfold Jri;rw [List.take_add_one,h,Option.toList_some,List.map_append,List.map_cons,List.map_nil,Jx3];intro e;have:=congrArg List.length e;rw [List.length_map,List.length_take] at this;simp only [List.length_nil] at this;omega
theorem J4r (l:List PTx) (i:Nat):sumP (l.take i)≤sumP l:=by
 have:sumP l=sumP (l.take i)+sumP (l.drop i):=by
  unfold sumP;rw [← List.sum_append,← List.map_append,List.take_append_drop]
 omega
theorem Jyx {op:Int} {sep:List UInt8} (hs:sep.length≤5) {l:List PTx} (h:∀ p∈l,p.1.length≤100) (i:Nat):(Jri op (l.take i) sep).length≤sumP l+615 * l.length:=by
 have h1:=Js4 (op:=op) hs (l:=l.take i) (fun p hp=>h p (List.mem_of_mem_take hp));have h2:=J4r l i;have h3:(l.take i).length≤l.length:=by rw [List.length_take];omega
 omega
theorem Jts:∀ {f:RF} {p:RKT},Jro f→p∈f.list→p.1.length≤100∧fitQ p.2
 | .nil,p,_,h=>by simp [RF.list] at h
 | .cons nm t r,p,hf,h=>by
  rw [Jro] at hf;rcases List.mem_cons.1 h with rfl | h
  ·exact ⟨hf.1,hf.2.1⟩
  ·exact Jts hf.2.2 h
theorem Jsn:∀ {f:RF} {p:RKT},p∈f.list→(p.2.enc p.1).length≤f.enc.length
 | .nil,p,h=>by simp [RF.list] at h
 | .cons nm t r,p,h=>by
  rw [Jqh,List.length_append];rcases List.mem_cons.1 h with rfl | h
  ·simp only;omega
  ·have:=Jsn h;omega
theorem Jwg:¬ Jtq []:=by decide +kernel
theorem Ju5 (s:List UInt8):Hy [⟨false,s,0⟩]=46 :: nmT s:=by
 unfold Hy Br nmT;simp only [List.flatMap_cons,List.flatMap_nil,List.append_nil,Bv,Bool.false_eq_true,if_false];split <;> rfl
theorem J30 (n:Int):Hy [⟨true,[],n⟩]=[46,91] ++ Lib.itoa n ++ [93]:=by
 unfold Hy Br;simp only [List.flatMap_cons,List.flatMap_nil,List.append_nil,Bv,if_true];rfl
theorem Jzc {c:Node} (h:Jq8 c) (hk:c.kind=3):c.small:=by
 have h2:=h.2.2;unfold G3 at h2;rw [if_neg omg,if_pos hk] at h2;obtain ⟨_,_,a1,a2,a3,a4,_⟩:=h2;exact ⟨by omega,by omega,by omega⟩
theorem J4l {c:Node} (h:Jq8 c) (hk:c.kind=4):valid c.s=true:=by
 have h2:=h.2.2;unfold G3 at h2;rw [if_neg omg,if_neg omg,if_pos hk] at h2;exact h2.1
theorem Jth {c:Node} (h:Jq8 c):c.kind=0∨c.kind=1∨c.kind=2∨c.kind=3∨c.kind=4:=by
 have h2:=h.2.2;have h1:=h.1;unfold G3 at h2;by_cases a:c.kind=0∨c.kind=1∨c.kind=2
 ·omega
 rw [if_neg a] at h2;by_cases b:c.kind=3
 ·omega
 rw [if_neg b] at h2;by_cases d:c.kind=4
 ·omega
 rw [if_neg d,if_neg omg] at h2;exact h2.elim
theorem J3y (c:Node) (hp:Jq8 c) (hs:c.s.length≤1000000):Det cx 63 [.p (.agg [.int .i64 c.kind,.int .i64 c.many,.str c.name,.str c.s,.bool c.neg,.int .i64 c.e])] [] (.p (.str (Jrw c))) []:=by
 have hN:=fun hk=>J2v c (Jzc hp hk)
 have hQ:=Js6 c.s hs;obtain ⟨k,m,nm,s,g,e⟩:=c;rcases Jth hp with h | h | h | h | h <;> simp only at h hN hQ <;> subst h
 ·(refine bgo Tryz.func63 ?_;simp only [go_sem,simprocAttr])
  all_goals rfl
 ·(refine bgo Tryz.func63 ?_;simp only [go_sem,simprocAttr])
  all_goals rfl
 ·(refine bgo Tryz.func63 ?_;simp only [go_sem,simprocAttr])
  all_goals rfl
 ·have hN:=hN rfl;rw [Jsh] at hN;(refine bgo Tryz.func63 ?_;simp only [go_sem,simprocAttr]);(repeat' (first | ((refine Jqa (hN) ?_);simp only [go_sem,simprocAttr]) | fail))
  all_goals rfl
 ·(refine bgo Tryz.func63 ?_;simp only [go_sem,simprocAttr]);(repeat' (first | ((refine Jqa (hQ) ?_);simp only [go_sem,simprocAttr]) | fail))
  all_goals rfl
theorem J7k (s:List UInt8) (hs:s.length≤1000000):Det cx 98 [.p (.str s)] [] (.p (.str (nmT s))) []:=by
 have hW:=Jsd s hs;have hQ:=Js6 s hs;unfold nmT;by_cases h:isWd s
 ·rw [decide_eq_true h] at hW;rw [if_pos h];(refine bgo Tryz.func98 ?_;simp only [go_sem,simprocAttr]);(repeat' (first | ((refine Jqa (hW) ?_);simp only [go_sem,simprocAttr]) | fail))
 ·rw [decide_eq_false h] at hW;rw [if_neg h];(refine bgo Tryz.func98 ?_;simp only [go_sem,simprocAttr]);(repeat' (first | ((first | (refine Jqa (hW) ?_)|(refine Jqa (hQ) ?_));simp only [go_sem,simprocAttr]) | fail))
def Juw (n:Nat):Prop:=∀ (t:RT) (nm:List UInt8),okQ t→fitQ t→(t.enc nm).length≤n→Det cx 22 [.p (.sl (rowL (t.enc nm)))] [] (.p (.str (Jql t))) []
theorem d_qIn (n:Nat) (hn2:n≤10000) (H:Juw n) (t:RT) (ho:okQ t) (hf:fitQ t) (hn:(t.enc []).length≤n):Det cx 61 [.p (.sl (rowL (t.enc [])))] [] (.p (.str (inBr t.kind (Jql t)))) []:=by
 have hT:=H t [] ho hf hn;have hl:=Jre t hf [];obtain ⟨k,s,g,c,kids⟩:=t;have hg0:(rowL ((RT.mk k s g c kids).enc []))[0]? = some [.int .i64 k,.int .i64 kids.len,.str [],.str s,.int .i64 g,.int .i64 c.kind,.int .i64 c.many,.str c.name,.str c.s,.bool c.neg,.int .i64 c.e]:=by rw [Jqk];rfl
 have hl2:(Jql (.mk k s g c kids)).length≤21000000:=by omega
 simp only [RT.kind];clear hl hn;generalize Jql (.mk k s g c kids)=x at hT hl2 ⊢;generalize rowL ((RT.mk k s g c kids).enc [])=rows at hT hg0 ⊢;unfold inBr;by_cases h4:k=4
 ·have e:=eq_true h4;rw [if_pos (.inl h4)];(refine bgo Tryz.func61 ?_;simp only [go_sem,simprocAttr,hg0,e]);(repeat' (first | (refine Jqd ?_)|((refine Jqa (hT) ?_);simp only [go_sem,simprocAttr]) | fail))
  all_goals omega
 by_cases h17:k=17
 ·have e:=eq_true h17;have e':=eq_false h4;rw [if_pos (.inr (.inl h17))];(refine bgo Tryz.func61 ?_;simp only [go_sem,simprocAttr,hg0,e,e']);(repeat' (first | (refine Jqd ?_)|((refine Jqa (hT) ?_);simp only [go_sem,simprocAttr]) | fail))
  all_goals omega
 by_cases h18:k=18
 ·have e:=eq_true h18;have e':=eq_false h4;have e'':=eq_false h17;rw [if_pos (.inr (.inr h18))];(refine bgo Tryz.func61 ?_;simp only [go_sem,simprocAttr,hg0,e,e',e'']);(repeat' (first | (refine Jqd ?_)|((refine Jqa (hT) ?_);simp only [go_sem,simprocAttr]) | fail))
  all_goals omega
 ·have e:=eq_false h18;have e':=eq_false h4;have e'':=eq_false h17;rw [if_neg omg];(refine bgo Tryz.func61 ?_;simp only [go_sem,simprocAttr,hg0,e,e',e'']);(repeat' (first | ((refine Jqa (hT) ?_);simp only [go_sem,simprocAttr]) | fail))
theorem J4h (n:Nat) (hn2:n≤10000) (H:Juw n) (nm:List UInt8) (k:Int) (s:List UInt8) (g:Int) (c:Node) (kids:RF) (ho:okQF kids) (hf:Jro kids) (hn:kids.enc.length≤n) (sep:List UInt8) (hsep:sep.length≤5):Det cx 62 [.p (.sl (rowL ((RT.mk k s g c kids).enc nm))),.p (.str sep)] [] (.p (.str (Jri k (Jqg kids) sep))) []:=by
 have hP:=Jt9 nm k s g c kids omg;have hN:=J5r nm k s g c kids omg;have hg0:(rowL ((RT.mk k s g c kids).enc nm))[0]? = some [.int .i64 k,.int .i64 kids.len,.str nm,.str s,.int .i64 g,.int .i64 c.kind,.int .i64 c.many,.str c.name,.str c.s,.bool c.neg,.int .i64 c.e]:=by rw [Jqk];rfl
 generalize rowL ((RT.mk k s g c kids).enc nm)=rows at hP hN hg0 ⊢;obtain ⟨hq1,hq2⟩:=Jsz kids hf;have hql:=Js1 kids;have hll:=Jqx kids;have hB:∀ i,(Jri k ((Jqg kids).take i) sep).length≤21000000:=fun i=>by
  have:=Jyx (op:=k) hsep hq1 i;rw [hql] at this;omega
 (refine bgo Tryz.func62 ?_;simp only [go_sem,simprocAttr]);(repeat' (first | ((first | (refine Jqa (hP) ?_)|(refine Jqa (hN) ?_));simp only [go_sem,simprocAttr]) | fail));refine SWP.loop (fun i:Nat=>⟨Ba 45 [(0,.p (.sl rows)),(1,.p (.str sep)),(5,.p (.sl (Jqq kids.list))),(6,.p (.sl (Jr9 kids.list))),(7,.p (.str (Jri k ((Jqg kids).take i) sep))),(8,.p (.int .i64 i))],[]⟩) (fun i=>i≤kids.len) (fun i=>kids.len - i) 0 (by simp only [List.take_zero,Jri,List.map_nil,Jse];exact Jqe) (Nat.zero_le _) ?_;intro i hi;by_cases hlt:i<kids.len
 ·have c1:((i:Int)<(kids.list.length:Int))=True:=eq_true omg;obtain ⟨p,hp⟩:∃ p,kids.list[i]? = some p:=⟨_,List.getElem?_eq_getElem omg⟩
  have hpm:=List.mem_of_getElem? hp;have hgp:(Jqq kids.list)[i]? = some [.sl (rowL (p.2.enc []))]:=by unfold Jqq;rw [List.getElem?_map,hp];rfl
  have hgn:(Jr9 kids.list)[i]? = some [.str p.1]:=by unfold Jr9;rw [List.getElem?_map,hp];rfl
  have hgq:=Jxv hp;obtain ⟨f1,f2⟩:=Jts hf hpm;have hIn:=d_qIn n hn2 H p.2 (Juf.1 ho p hpm) f2 (by have:=Jsn hpm;rw [Jrk] at this;omega);have hNm:=J7k p.1 omg;have w1:=wj1 (i:=i) omg;have b1:=hB i;have b2:=hB (i+1);have b3:=Jz8 p.1;have hz:(inBr p.2.kind (Jql p.2)).length≤21000002:=by
   have h1:=Juv p.2.kind (Jql p.2);have h2:=Jre p.2 f2 [];have h3:=Jsn hpm;rw [Jrk] at h3;omega
  by_cases h8:k=8
  ·have e8:=eq_true h8;have ho1:oneT k (p.1,p.2.kind,Jql p.2)=nmT p.1 ++ [58,32] ++ inBr p.2.kind (Jql p.2):=by unfold oneT;rw [if_pos h8]
   by_cases h0:i=0
   ·subst h0;have hx:=(Jwu (op:=k) (sep:=sep) hgq).trans ho1;rw [show Jri k ((Jqg kids).take 0) sep=[] from rfl];(refine lws ?_;simp only [go_sem,simprocAttr,hg0,Jqv,hgn,e8]);(repeat' (first | (refine And.intro (by simp only [List.length_append,List.length_cons,List.length_nil];omega) ?_)|(apply iteI <;> intro h)|(refine Jqd ?_)|((first | (refine Jqa (hIn) ?_)|(refine Jqa (hNm) ?_));simp only [go_sem,simprocAttr,hgp])|(exfalso;omega)));exact ⟨1,by omega,by omega,by rw [hx];exact Jqe⟩
   ·have hx:=Jyd (op:=k) (sep:=sep) hgq omg;rw [ho1] at hx;have c0:((0:Int)<(i:Int))=True:=eq_true omg;generalize Jri k ((Jqg kids).take i) sep=x at b1 hx ⊢;(refine lws ?_;simp only [go_sem,simprocAttr,hg0,Jqv,c1,c0,hgn,e8]);(repeat' (first | (refine And.intro (by simp only [List.length_append,List.length_cons,List.length_nil];omega) ?_)|(refine Jqd ?_)|((first | (refine Jqa (hIn) ?_)|(refine Jqa (hNm) ?_));simp only [go_sem,simprocAttr,hgp,w1]) | fail));exact ⟨i+1,by omega,by omega,by rw [hx];exact Jqe⟩
  ·have e8:=eq_false h8;have ho1:oneT k (p.1,p.2.kind,Jql p.2)=inBr p.2.kind (Jql p.2):=by unfold oneT;rw [if_neg h8]
   by_cases h0:i=0
   ·subst h0;have hx:=(Jwu (op:=k) (sep:=sep) hgq).trans ho1;rw [show Jri k ((Jqg kids).take 0) sep=[] from rfl];(refine lws ?_;simp only [go_sem,simprocAttr,hg0,Jqv,hgp,e8]);(repeat' (first | (apply iteI <;> intro h)|(refine Jqd ?_)|((refine Jqa (hIn) ?_);simp only [go_sem,simprocAttr])|(exfalso;omega)));exact ⟨1,by omega,by omega,by rw [hx];exact Jqe⟩
   ·have hx:=Jyd (op:=k) (sep:=sep) hgq omg;rw [ho1] at hx;have c0:((0:Int)<(i:Int))=True:=eq_true omg;generalize Jri k ((Jqg kids).take i) sep=x at b1 hx ⊢;(refine lws ?_;simp only [go_sem,simprocAttr,hg0,Jqv,c1,c0,hgp,e8]);(repeat' (first | (refine And.intro (by simp only [List.length_append,List.length_cons,List.length_nil];omega) ?_)|(refine Jqd ?_)|((refine Jqa (hIn) ?_);simp only [go_sem,simprocAttr,w1]) | fail));exact ⟨i+1,by omega,by omega,by rw [hx];exact Jqe⟩
 ·obtain rfl:i=kids.len:=by omega
  have c1:((kids.len:Int)<(kids.list.length:Int))=False:=eq_false omg;rw [List.take_of_length_le omg];(refine lws ?_;simp only [go_sem,simprocAttr,Jqv,c1])
  skip
theorem Juu {f:RF} (h:(f.len:Int)=1):∃ nm t,f=.cons nm t .nil:=by
 match f,h with
 | .nil,h=>simp [RF.len] at h
 | .cons nm t .nil,_=>exact ⟨nm,t,rfl⟩
 | .cons _ _ (.cons _ _ r),h=>simp only [RF.len] at h;omega
theorem J1e {f:RF} (h:(f.len:Int)=2):∃ nm t nm' t',f=.cons nm t (.cons nm' t' .nil):=by
 match f,h with
 | .nil,h=>simp [RF.len] at h
 | .cons _ _ .nil,h=>simp [RF.len] at h
 | .cons nm t (.cons nm' t' .nil),_=>exact ⟨nm,t,nm',t',rfl⟩
 | .cons _ _ (.cons _ _ (.cons _ _ r)),h=>simp only [RF.len] at h;omega
theorem Jtl {f:RF} (h:(f.len:Int)=0):f=.nil:=by
 match f,h with
 | .nil,_=>rfl
 | .cons _ _ r,h=>simp only [RF.len] at h;omega
theorem Jtk {k:Int} (hk:k=0∨k=10∨k=11∨k=14) {s:List UInt8} {n:Int} {c:Node} {m:Int} (h:Jqf k s n c m):s=[]∧n=0∧c=Jqt∧m=0:=by
 unfold Jqf at h;rwa [if_pos hk] at h
theorem J1z {s:List UInt8} {n:Int} {c:Node} {m:Int} (h:Jqf 1 s n c m):n=0∧c=Jqt∧m=0∧valid s=true:=by
 unfold Jqf at h;rwa [if_neg omg,if_pos rfl] at h
theorem Jxh {k:Int} (hk:k=2∨k=3) {s:List UInt8} {n:Int} {c:Node} {m:Int} (h:Jqf k s n c m):s=[]∧c=Jqt∧m=0∧0≤n∧n≤1000000:=by
 unfold Jqf at h;rwa [if_neg omg,if_neg omg,if_pos hk] at h
theorem J5e {k:Int} (hk:k=4∨k=17∨k=18) {s:List UInt8} {n:Int} {c:Node} {m:Int} (h:Jqf k s n c m):s=[]∧n=0∧c=Jqt∧m=2:=by
 unfold Jqf at h;rwa [if_neg omg,if_neg omg,if_neg omg,if_pos hk] at h
theorem Jwn {k:Int} (hk:k=5∨k=6∨k=7∨k=19) {s:List UInt8} {n:Int} {c:Node} {m:Int} (h:Jqf k s n c m):s=[]∧n=0∧c=Jqt∧m=1:=by
 unfold Jqf at h;rwa [if_neg omg,if_neg omg,if_neg omg,if_neg omg,if_pos hk] at h
theorem Jxi {k:Int} (hk:k=12∨k=13∨k=15) {s:List UInt8} {n:Int} {c:Node} {m:Int} (h:Jqf k s n c m):n=0∧c=Jqt∧m=0∧Jtq s:=by
 unfold Jqf at h;rwa [if_neg omg,if_neg omg,if_neg omg,if_neg omg,if_neg omg,if_neg omg,if_pos hk] at h
theorem J5o {s:List UInt8} {n:Int} {c:Node} {m:Int} (h:Jqf 16 s n c m):m=0∧Jtq s∧0≤n∧n≤5∧Jq8 c:=by
 unfold Jqf at h;rwa [if_neg omg,if_neg omg,if_neg omg,if_neg omg,if_neg omg,if_neg omg,if_neg omg,if_pos rfl] at h
theorem J19 {k:Int} {s:List UInt8} {n:Int} {c:Node} {m:Int} (h:Jqf k s n c m):0≤k∧k≤19:=by
 have:¬ (k<0∨19<k):=fun hk=>by
  unfold Jqf at h;rw [if_neg omg,if_neg omg,if_neg omg,if_neg omg,if_neg omg,if_neg omg,if_neg omg,if_neg omg] at h;exact h
 omega
theorem J6z (n:Nat) (hn2:n≤10000) (H:Juw n) (nm:List UInt8) (k:Int) (hk:k=5∨k=6∨k=7∨k=12∨k=13∨k=15) (s:List UInt8) (g:Int) (c:Node) (kids:RF) (ho:okQ (.mk k s g c kids)) (hf:fitQ (.mk k s g c kids)) (hn:kids.enc.length≤n):Det cx 64 [.p (.sl (rowL ((RT.mk k s g c kids).enc nm)))] [] (.p (.str (Jql (.mk k s g c kids)))) []:=by
 have hP:=Jt9 nm k s g c kids omg;have hg0:(rowL ((RT.mk k s g c kids).enc nm))[0]? = some [.int .i64 k,.int .i64 kids.len,.str nm,.str s,.int .i64 g,.int .i64 c.kind,.int .i64 c.many,.str c.name,.str c.s,.bool c.neg,.int .i64 c.e]:=by rw [Jqk];rfl
 generalize rowL ((RT.mk k s g c kids).enc nm)=rows at hP hg0 ⊢;obtain ⟨h1,h2,h3⟩:=Jru.1 ho;rw [fitQ] at hf;obtain ⟨⟨f1,_⟩,f2⟩:=hf;rw [Jr0];by_cases hk1:k=5∨k=6∨k=7
 ·obtain ⟨rfl,rfl,rfl,hm1⟩:=Jwn omg h1;obtain ⟨nm',t,rfl⟩:=Juu hm1;have h3:=(Jqo.1 h3).1;rw [Jro] at f2;rw [Jqh,Jq0,List.append_nil] at hn;have hT:=H t [] h3 f2.2.1 (by rw [Jrk];rw [Jrk] at hn;exact hn);have hl:=Jre t f2.2.1 nm';have hl2:(Jql t).length≤21000000:=by omega
  rw [show Jqq (RF.cons nm' t .nil).list=[[.sl (rowL (t.enc []))]] from rfl] at hP;rw [hm1] at hg0;rw [show Jqg (.cons nm' t .nil)=[(nm',t.kind,Jql t)] by rw [Jqg,Jqg]];generalize Jql t=x at hT hl2 ⊢;have wk0:IntKind.i64.wrap 0=0:=by decide
  have wk1:IntKind.i64.wrap 1=1:=by decide
  have wk2:IntKind.i64.wrap 2=2:=by decide
  rcases hk1 with rfl | rfl | rfl <;> (
   (refine bgo Tryz.func64 ?_;simp only [go_sem,simprocAttr,hg0]);(repeat' (first | (refine Jqd ?_)|((first | (refine Jqa (hP) ?_)|(refine Jqa (hT) ?_));simp only [go_sem,simprocAttr,hg0,wk0,wk1,wk2]) | fail))
   all_goals (first | omega | rfl | simp [Jqm,Jra,Jqw]))
 ·obtain ⟨rfl,rfl,hm1,hps⟩:=Jxi omg h1;obtain rfl:=Jtl hm1;rw [show ((RF.nil.len:Nat):Int)=0 from rfl] at hg0;rw [show Jqg .nil=[] by rw [Jqg]];have wk0:IntKind.i64.wrap 7=7:=by decide
  have wk1:IntKind.i64.wrap 8=8:=by decide
  have wk2:IntKind.i64.wrap 10=10:=by decide
  rcases (by omega:k=12∨k=13∨k=15) with rfl | rfl | rfl <;> (
   (refine bgo Tryz.func64 ?_;simp only [go_sem,simprocAttr,hg0,wk0,wk1,wk2]);(repeat' (first | (refine Jqd ?_) | fail))
   all_goals (first | omega | rfl | simp [Jqm,Jra,Jqw]))
theorem J5t (n:Nat) (hn2:n<10000) (H:Juw n):Juw (n+1):=by
 intro t nm ho hf hn;obtain ⟨k,s,g,c,kids⟩:=t;have hC:=fun hk=>J6z n omg H nm k hk s g c kids ho hf (by rw [Jqk,List.length_cons] at hn;omega)
 have hP:=Jt9 nm k s g c kids (by rw [Jqk,List.length_cons] at hn;omega);have hg0:(rowL ((RT.mk k s g c kids).enc nm))[0]? = some [.int .i64 k,.int .i64 kids.len,.str nm,.str s,.int .i64 g,.int .i64 c.kind,.int .i64 c.many,.str c.name,.str c.s,.bool c.neg,.int .i64 c.e]:=by rw [Jqk];rfl
 obtain ⟨h1,h2,h3⟩:=Jru.1 ho;have hf':=hf;rw [fitQ] at hf';obtain ⟨⟨f1,fc,fn0,fn1,fe0,fe1⟩,f2⟩:=hf';have hkn:kids.enc.length≤n:=by rw [Jqk,List.length_cons] at hn;omega
 have hJ:=fun sep hsep=>J4h n omg H nm k s g c kids h3 f2 hkn sep hsep
 have hq:=Jsz kids f2;have hjl:∀ sep:List UInt8,sep.length≤5→(Jri k (Jqg kids) sep).length≤21000000:=fun sep hsep=>by
  have:=Js4 (op:=k) hsep hq.1;have h5:=Js1 kids;rw [h5] at this;omega
 generalize rowL ((RT.mk k s g c kids).enc nm)=rows at *
 have hkk:=J19 h1;rw [Jr0];by_cases k0:k=0
 ·subst k0;obtain ⟨rfl,rfl,rfl,hm0⟩:=Jtk omg h1;(refine bgo Tryz.func22 ?_;simp only [go_sem,simprocAttr,hg0])
  all_goals (first | omega | rfl | (simp only [List.length_append,List.length_cons,List.length_nil];omega) | simp [Jqm,Jra,Jqw,Jrb])
 by_cases k1:k=1
 ·subst k1;obtain ⟨rfl,rfl,hm0,hvs⟩:=J1z h1;have hX:Det cx 59 [.p (.sl [[.bool false,.str s,.int .i64 0]])] [] (.p (.str (46 :: nmT s))) []:=by
   rw [← Ju5];exact J4o [⟨false,s,0⟩] sm (by intro x hx;simp only [List.mem_singleton] at hx;subst hx;exact (by unfold Bc;rw [if_neg sm];exact ⟨rfl,hvs⟩)) (by intro x hx;simp only [List.mem_singleton] at hx;subst hx;show s.length≤1000;omega)
  (refine bgo Tryz.func22 ?_;simp only [go_sem,simprocAttr,hg0]);(repeat' (first | ((refine Jqa (hX) ?_);simp only [go_sem,simprocAttr]) | fail))
  all_goals (first | omega | rfl | (simp only [List.length_append,List.length_cons,List.length_nil];omega) | simp [Jqm,Jra,Jqw,Jrb])
 by_cases k2:k=2
 ·subst k2;obtain ⟨rfl,rfl,hm0,hg1,hg2⟩:=Jxh omg h1;obtain ⟨m,rfl⟩:∃ m:Nat,g=m:=⟨g.toNat,by omega⟩
  have hil:=Jrx fn0 fn1;have hX:=Jv9 m omg;rw [← Jxw] at hX;simp only [Jqm,Int.reduceEq,if_true,if_false,reduceIte,or_self,false_or,or_false];generalize Lib.itoa (m:Int)=x at hX hil ⊢;(refine bgo Tryz.func22 ?_;simp only [go_sem,simprocAttr,hg0]);(repeat' (first | (refine Jqd ?_)|((refine Jqa (hX) ?_);simp only [go_sem,simprocAttr]) | fail))
  all_goals (first | omega | rfl | (simp only [List.length_append,List.length_cons,List.length_nil];omega) | simp [Jqm,Jra,Jqw,Jrb])
 by_cases k3:k=3
 ·subst k3;obtain ⟨rfl,rfl,hm0,hg1,hg2⟩:=Jxh omg h1;obtain ⟨m,rfl⟩:∃ m:Nat,g=m:=⟨g.toNat,by omega⟩
  have hil:=Jrx fn0 fn1;have hX:=Jv9 m omg;rw [← Jxw] at hX;simp only [Jqm,Int.reduceEq,if_true,if_false,reduceIte,or_self,false_or,or_false];generalize Lib.itoa (m:Int)=x at hX hil ⊢;(refine bgo Tryz.func22 ?_;simp only [go_sem,simprocAttr,hg0]);(repeat' (first | (refine Jqd ?_)|((refine Jqa (hX) ?_);simp only [go_sem,simprocAttr]) | fail))
  all_goals (first | omega | rfl | (simp only [List.length_append,List.length_cons,List.length_nil];omega) | simp [Jqm,Jra,Jqw,Jrb])
 by_cases k4:k=4
 ·subst k4;obtain ⟨rfl,rfl,rfl,hm2⟩:=J5e omg h1;obtain ⟨na,a,nb,b,rfl⟩:=J1e hm2;obtain ⟨g1,g2⟩:=Jqo.1 h3;have g3:=(Jqo.1 g2).1;rw [Jro,Jro] at f2;rw [Jqh,Jqh,Jq0,List.append_nil,List.length_append] at hkn;have la:=Jrk a na;have lb:=Jrk b nb;have hA:=d_qIn n omg H a g1 f2.2.1 omg;have hBt:=H b [] g3 f2.2.2.2.1 omg;have la2:=Jre a f2.2.1 [];have lb2:=Jre b f2.2.2.2.1 [];have la3:=Juv a.kind (Jql a);rw [show Jqq (RF.cons na a (.cons nb b .nil)).list=[[.sl (rowL (a.enc []))],[.sl (rowL (b.enc []))]] from rfl] at hP;rw [show Jqg (.cons na a (.cons nb b .nil))=[(na,a.kind,Jql a),(nb,b.kind,Jql b)] by rw [Jqg,Jqg,Jqg]];have la4:(inBr a.kind (Jql a)).length≤21000002:=by omega
  have lb4:(Jql b).length≤21000000:=by omega
  simp only [Jqm,Int.reduceEq,if_true,if_false,reduceIte,or_self,false_or,or_false];generalize inBr a.kind (Jql a)=x at hA la4 ⊢;generalize Jql b=y at hBt lb4 ⊢;(refine bgo Tryz.func22 ?_;simp only [go_sem,simprocAttr,hg0]);(repeat' (first | (refine Jqd ?_)|((first | (refine Jqa (hP) ?_)|(refine Jqa (hA) ?_)|(refine Jqa (hBt) ?_));simp only [go_sem,simprocAttr]) | fail))
  all_goals (first | omega | rfl | (simp only [List.length_append,List.length_cons,List.length_nil];omega) | simp [Jqm,Jra,Jqw,Jrb])
 by_cases k5:k=5
 ·subst k5;have hX:=hC omg;rw [Jr0] at hX;(refine bgo Tryz.func22 ?_;simp only [go_sem,simprocAttr,hg0]);(repeat' (first | ((refine Jqa (hX) ?_);simp only [go_sem,simprocAttr]) | fail))
  all_goals (first | omega | rfl | (simp only [List.length_append,List.length_cons,List.length_nil];omega) | simp [Jqm,Jra,Jqw,Jrb])
 by_cases k6:k=6
 ·subst k6;have hX:=hC omg;rw [Jr0] at hX;(refine bgo Tryz.func22 ?_;simp only [go_sem,simprocAttr,hg0]);(repeat' (first | ((refine Jqa (hX) ?_);simp only [go_sem,simprocAttr]) | fail))
  all_goals (first | omega | rfl | (simp only [List.length_append,List.length_cons,List.length_nil];omega) | simp [Jqm,Jra,Jqw,Jrb])
 by_cases k7:k=7
 ·subst k7;have hX:=hC omg;rw [Jr0] at hX;(refine bgo Tryz.func22 ?_;simp only [go_sem,simprocAttr,hg0]);(repeat' (first | ((refine Jqa (hX) ?_);simp only [go_sem,simprocAttr]) | fail))
  all_goals (first | omega | rfl | (simp only [List.length_append,List.length_cons,List.length_nil];omega) | simp [Jqm,Jra,Jqw,Jrb])
 by_cases k8:k=8
 ·subst k8;have hX:=hJ [44,32] sm;have hxl:=hjl [44,32] sm;generalize hxe:Jri 8 (Jqg kids) [44,32]=x at hX hxl;(refine bgo Tryz.func22 ?_;simp only [go_sem,simprocAttr,hg0]);(repeat' (first | (refine Jqd ?_)|((refine Jqa (hX) ?_);simp only [go_sem,simprocAttr]) | fail))
  all_goals (rw [← hxe];simp [Jqm])
 by_cases k9:k=9
 ·subst k9;have hX:=hJ [44,32] sm;have hxl:=hjl [44,32] sm;generalize hxe:Jri 9 (Jqg kids) [44,32]=x at hX hxl;(refine bgo Tryz.func22 ?_;simp only [go_sem,simprocAttr,hg0]);(repeat' (first | (refine Jqd ?_)|((refine Jqa (hX) ?_);simp only [go_sem,simprocAttr]) | fail))
  all_goals (rw [← hxe];simp [Jqm])
 by_cases k10:k=10
 ·subst k10;obtain ⟨rfl,rfl,rfl,hm0⟩:=Jtk omg h1;(refine bgo Tryz.func22 ?_;simp only [go_sem,simprocAttr,hg0])
  all_goals (first | omega | rfl | (simp only [List.length_append,List.length_cons,List.length_nil];omega) | simp [Jqm,Jra,Jqw,Jrb])
 by_cases k11:k=11
 ·subst k11;obtain ⟨rfl,rfl,rfl,hm0⟩:=Jtk omg h1;(refine bgo Tryz.func22 ?_;simp only [go_sem,simprocAttr,hg0])
  all_goals (first | omega | rfl | (simp only [List.length_append,List.length_cons,List.length_nil];omega) | simp [Jqm,Jra,Jqw,Jrb])
 by_cases k12:k=12
 ·subst k12;have hX:=hC omg;rw [Jr0] at hX;(refine bgo Tryz.func22 ?_;simp only [go_sem,simprocAttr,hg0]);(repeat' (first | ((refine Jqa (hX) ?_);simp only [go_sem,simprocAttr]) | fail))
  all_goals (first | omega | rfl | (simp only [List.length_append,List.length_cons,List.length_nil];omega) | simp [Jqm,Jra,Jqw,Jrb])
 by_cases k13:k=13
 ·subst k13;have hX:=hC omg;rw [Jr0] at hX;(refine bgo Tryz.func22 ?_;simp only [go_sem,simprocAttr,hg0]);(repeat' (first | ((refine Jqa (hX) ?_);simp only [go_sem,simprocAttr]) | fail))
  all_goals (first | omega | rfl | (simp only [List.length_append,List.length_cons,List.length_nil];omega) | simp [Jqm,Jra,Jqw,Jrb])
 by_cases k14:k=14
 ·subst k14;obtain ⟨rfl,rfl,rfl,hm0⟩:=Jtk omg h1;(refine bgo Tryz.func22 ?_;simp only [go_sem,simprocAttr,hg0])
  all_goals (first | omega | rfl | (simp only [List.length_append,List.length_cons,List.length_nil];omega) | simp [Jqm,Jra,Jqw,Jrb])
 by_cases k15:k=15
 ·subst k15;have hX:=hC omg;rw [Jr0] at hX;(refine bgo Tryz.func22 ?_;simp only [go_sem,simprocAttr,hg0]);(repeat' (first | ((refine Jqa (hX) ?_);simp only [go_sem,simprocAttr]) | fail))
  all_goals (first | omega | rfl | (simp only [List.length_append,List.length_cons,List.length_nil];omega) | simp [Jqm,Jra,Jqw,Jrb])
 by_cases k16:k=16
 ·subst k16;obtain ⟨hm0,hps,hn0,hn5,hpc⟩:=J5o h1;have hX:=J3y c hpc omg;have hxl:=Jxn fc fe0 fe1;rcases (by omega:g=0∨g=1∨g=2∨g=3∨g=4∨g=5) with rfl | rfl | rfl | rfl | rfl | rfl <;> (
   simp only [Jqm,Jrb,Int.reduceEq,if_true,if_false,reduceIte,or_self,false_or,or_false];generalize Jrw c=x at hX hxl ⊢;(refine bgo Tryz.func22 ?_;simp only [go_sem,simprocAttr,hg0]);(repeat' (first | (refine And.intro (by simp only [List.length_append,List.length_cons,List.length_nil];omega) ?_)|(refine Jqd ?_)|((first | (refine Jqi ?_)|(refine Jqb (hX) ?_));simp only [go_sem,simprocAttr]) | fail))
   all_goals (first | omega | rfl | (simp only [List.length_append,List.length_cons,List.length_nil];omega) | simp [Jqm,Jra,Jqw,Jrb]))
 by_cases k17:k=17
 ·subst k17;have hX:=hJ [32,97,110,100,32] sm;have hxl:=hjl [32,97,110,100,32] sm;generalize hxe:Jri 17 (Jqg kids) [32,97,110,100,32]=x at hX hxl;(refine bgo Tryz.func22 ?_;simp only [go_sem,simprocAttr,hg0]);(repeat' (first | ((refine Jqa (hX) ?_);simp only [go_sem,simprocAttr]) | fail))
  all_goals (rw [← hxe];simp [Jqm])
 by_cases k18:k=18
 ·subst k18;have hX:=hJ [32,111,114,32] sm;have hxl:=hjl [32,111,114,32] sm;generalize hxe:Jri 18 (Jqg kids) [32,111,114,32]=x at hX hxl;(refine bgo Tryz.func22 ?_;simp only [go_sem,simprocAttr,hg0]);(repeat' (first | ((refine Jqa (hX) ?_);simp only [go_sem,simprocAttr]) | fail))
  all_goals (rw [← hxe];simp [Jqm])
 by_cases k19:k=19
 ·subst k19;obtain ⟨rfl,rfl,rfl,hm1⟩:=Jwn omg h1;obtain ⟨nm',t,rfl⟩:=Juu hm1;have h3:=(Jqo.1 h3).1;rw [Jro] at f2;rw [Jqh,Jq0,List.append_nil] at hkn;have hT:=H t [] h3 f2.2.1 (by rw [Jrk];rw [Jrk] at hkn;exact hkn);have hl:=Jre t f2.2.1 nm';have hl2:(Jql t).length≤21000000:=by omega
  rw [show Jqq (RF.cons nm' t .nil).list=[[.sl (rowL (t.enc []))]] from rfl] at hP;rw [show Jqg (.cons nm' t .nil)=[(nm',t.kind,Jql t)] by rw [Jqg,Jqg]];generalize Jql t=x at hT hl2 ⊢;(refine bgo Tryz.func22 ?_;simp only [go_sem,simprocAttr,hg0]);(repeat' (first | (refine Jqd ?_)|((first | (refine Jqa (hP) ?_)|(refine Jqa (hT) ?_));simp only [go_sem,simprocAttr]) | fail))
  all_goals (first | omega | rfl | (simp only [List.length_append,List.length_cons,List.length_nil];omega) | simp [Jqm,Jra,Jqw,Jrb])
 exact absurd hkk omg
theorem Jzx:∀ n,n≤10000→Juw n
 | 0,_=>fun t nm _ _ h=>by have:=Jrj t nm;omega
 | n+1,h=>J5t n omg (Jzx n omg)
end Go.LX
namespace Go.LX
open Go
def Jzw (c:UInt8):Bool:=decide (48≤c.toNat) && decide (c.toNat≤57)
theorem J4f {s:List UInt8} (h:Pk s=true):∀ c∈s,Jzw c=true:=by
 intro c hc;have:=List.all_eq_true.1 h c hc;exact this
theorem J15 (k:Nat):∀ c∈Lib.repeatL [48] k,Jzw c=true:=by
 intro c hc;have:Lib.repeatL [48] k=List.replicate k 48:=by
  have:=Lib.repeatL_replicate 48 1 k;simpa using this
 rw [this] at hc;rw [(List.mem_replicate.1 hc).2];rfl
def Juo (n:Node):List UInt8 :=
 if n.s.length=0 then [48] else if 0≤n.e∧(n.s.length:Int)+n.e≤20 then n.s ++ Lib.repeatL [48] n.e.toNat else
 if n.e<0∧-20≤n.e then (Lib.repeatL [48] (1 - n.e - n.s.length).toNat ++ n.s).take (((Lib.repeatL [48] (1 - n.e - n.s.length).toNat ++ n.s).length:Int)+n.e).toNat else n.s
def J3u (n:Node):List UInt8 :=
 if n.s.length=0 then [] else if 0≤n.e∧(n.s.length:Int)+n.e≤20 then [] else
 if n.e<0∧-20≤n.e then 46 :: (Lib.repeatL [48] (1 - n.e - n.s.length).toNat ++ n.s).drop (((Lib.repeatL [48] (1 - n.e - n.s.length).toNat ++ n.s).length:Int)+n.e).toNat else 101 :: Lib.itoa n.e
theorem Jya {n:Node} (h:Yz n.s n.neg n.e):Jq5 n=Jq7 n ++ (Juo n ++ J3u n):=by
 have hz:n.s.length=0→Jq7 n=[]:=fun h0=>by
  have:=h.2.2.2.2.2;rw [if_pos (List.eq_nil_of_length_eq_zero h0)] at this;unfold Jq7;rw [this.1];rfl
 unfold Jq5 Juo J3u;split
 ·rename_i h0;rw [hz h0];rfl
 ·split
  ·simp
  ·split
   ·simp
   ·simp
theorem J1t {n:Node} (h:Yz n.s n.neg n.e):∀ c∈Juo n,Jzw c=true:=by
 have hs:=J4f h.1;intro c hc;unfold Juo at hc;split at hc
 ·rw [List.mem_singleton.1 hc];rfl
 ·split at hc
  ·rcases List.mem_append.1 hc with hc | hc
   ·exact hs c hc
   ·exact J15 _ c hc
  ·split at hc
   ·rcases List.mem_append.1 (List.mem_of_mem_take hc) with hc | hc
    ·exact J15 _ c hc
    ·exact hs c hc
   ·exact hs c hc
theorem J0x {n:Node} (h:Yz n.s n.neg n.e):Juo n≠[]:=by
 unfold Juo;split
 ·simp
 ·rename_i h0;split
  ·intro e;have:=congrArg List.length e;simp at this;exact h0 (by rw [this.1];rfl)
  ·split
   ·intro e;have:=congrArg List.length e;rw [List.length_take,List.length_append,Juc] at this;simp only [List.length_nil] at this;omega
   ·intro e;rw [e] at h0;exact h0 rfl
theorem Jyc {n:Node} (h:Yz n.s n.neg n.e):∃ c r,Jq5 n=c :: r∧(c=45∨Jzw c=true)∧(c=45 ↔ n.neg=true):=by
 rw [Jya h];obtain ⟨c,r,e⟩:=List.exists_cons_of_ne_nil (J0x h);have hc:=J1t h c (by rw [e];exact List.mem_cons_self);unfold Jq7;by_cases hg:n.neg=true
 ·rw [if_pos hg];exact ⟨45,_,rfl,.inl rfl,by simp [hg]⟩
 ·rw [if_neg hg,e];refine ⟨c,_,rfl,.inr hc,⟨fun h45=>?_,fun h=>absurd h hg⟩⟩;subst h45;cases hc
instance (c:Nat):Decidable (letP c):=by unfold letP;infer_instance
instance (c:Nat):Decidable (figP c):=by unfold figP;infer_instance
end Go.LX
namespace Go.LX
open Go Go.RowKit Go.Proofs
attribute [local irreducible] Al SWP Bi
theorem Jx1 (sep:List UInt8):∀ ls:List (List UInt8),Lib.join ls sep=Jse sep ls
 | []=>by simp [Jse,Lib.join_nil]
 | [x]=>by simp [Jse,Lib.join_one]
 | x :: y :: l=>by
  have:=Jx1 sep (y :: l);rw [Jse,← this];simp [Lib.join,List.intercalate,List.intersperse]
theorem d_Join (ls:List (List UInt8)) (sep:List UInt8) (hn:ls.length≤1000000) (hl:(Jse sep ls).length≤1000000000):Det cx 79 [.p (.sl (Jta ls)),.p (.str sep)] [] (.p (.str (Jse sep ls))) []:=by
 refine Jrd (v:=.string ⟨⟨Jse sep ls⟩⟩) (enters_of Tryz.func79 kr rfl) rfl (fun β w Im=>PRep.str _) fun β Im w vs hg hf=>?_
 obtain ⟨v,u,rfl,h1,h2⟩:=fit2 hf;cases Ks h2;have h1:PRep w Im v (.sl (Jta ls)):=h1;have key:∀ xs:List (List UInt8),(xs.map fun s=>(⟨⟨s⟩⟩:ByteArray)).map (fun x=>x.data.toList)=xs:=by
  intro xs;rw [List.map_map];exact List.map_id' xs
 generalize hr:Jta ls=rows at h1;cases h1 with
 | slNil =>
  have:ls=[]:=by cases ls with
   | nil=>rfl
   | cons=>cases hr
  subst this;have:=Tryz.strings_Join_none none 0 ⟨⟨sep⟩⟩ w;refine this.mono fun e w' ⟨a,b⟩=>⟨a,?_⟩
  subst b;exact Below.refl _ _
 | sl b off cap sz es hcap hb f hsz hsc hc h =>
  subst hr;have hlen:(Jta ls).length=(ls.map fun s=>(⟨⟨s⟩⟩:ByteArray)).length:=by simp
  rw [hlen];have ej:Lib.join ((ls.map fun s=>(⟨⟨s⟩⟩:ByteArray)).map (fun x=>x.data.toList)) (⟨⟨sep⟩⟩:ByteArray).data.toList=Jse sep ls:=by rw [key];exact Jx1 sep ls
  have:=Tryz.strings_Join b off cap (ls.map fun s=>(⟨⟨s⟩⟩:ByteArray)) ⟨⟨sep⟩⟩ w (fun j x hj=>?_) (hf.im b hb) (by simp;omega) (by simpa using hcap) (by rw [ej];omega)
  ·rw [ej] at this;exact this
  ·rw [List.getElem?_map] at hj;obtain ⟨s,hs,rfl⟩:=Option.map_eq_some_iff.1 hj;have hg:=J2d hs;have hsz1:sz=1:=(hsz _ (List.mem_of_getElem? hg)).symm;subst hsz1;have hjl:=(List.getElem?_eq_some_iff.1 hg).1;have h0:=hc j hjl 0 omg;have hp:=h j _ 0 (.str s) hg rfl;rw [Nat.mul_one,Nat.add_zero] at h0;rw [h0];generalize f j 0=y at hp;cases hp;rfl
theorem J6x:liesAt Tryz.prog Tryz.prog.depth 109 1 0 107 1=true:=kr
theorem Jxx (b:Bool):Det cx 136 [.ptr 1000 0 0] [(1000,.var 109 [.p .nptr,.p .snil,.p (.bool b)])] (.tup []) [(1000,.var 109 [.ptr 1000 0 0,.p .snil,.p (.bool b)])]:=by
 (refine bgo Tryz.func136 ?_;simp only [go_sem,simprocAttr]);(repeat' (first | ((refine Jwt (Jag _) ?_);simp only [go_sem,simprocAttr]) | fail));exact J6x
theorem Jss (s:List UInt8) (hs:s.length≤1000000000) (b:Bool):Det cx 112 [.ptr 1000 0 0,.p (.str s)] [(1000,.var 109 [.p .nptr,.p .snil,.p (.bool b)])] (.tup [.int .i64 s.length,.nifc]) [(900,.row 5 1 (bstr s)),(1000,.var 109 [.ptr 1000 0 0,.own 900 0 s.length,.p (.bool b)])]:=by
 (refine bgoR false [(14,900)] Tryz.func112 ?_;simp only [go_sem,simprocAttr]);(repeat' (first | ((refine Jqa (Jxx b) ?_);simp only [go_sem,simprocAttr]) | fail));exact ⟨X6 s,by omega,by omega,rfl⟩
theorem J33 (s:List UInt8) (n:Nat) (b:Bool) (hn:s.length=n) (h1:n≤1000000000) (h0:n≠0):Det cx 94 [.ptr 1000 0 0] [(500001,.row 5 1 (bstr s)),(1000,.var 109 [.ptr 1000 0 0,.own 500001 0 n,.p (.bool b)])] (.p (.str s)) [(1000,.var 109 [.ptr 1000 0 0,.junk,.p (.bool b)])]:=by
 (refine bgo Tryz.func94 ?_;simp only [go_sem,simprocAttr]);(refine Gi 10 hm kr kr ?_;simp only [go_sem,simprocAttr,Ox]);have h2:s≠[]:=fun h=>by subst h;exact h0 (by rw [← hn];rfl)
 simp [hn,h2];omega
theorem J3n {c:Node} (hp:Jq8 c) (hk:c.kind=3):Yz c.s c.neg c.e:=by
 have h2:=hp.2.2;unfold G3 at h2;rw [if_neg omg,if_pos hk] at h2;exact h2.2
theorem Jug {c:Node} (hp:Jq8 c) (hk:c.kind=3):(Jq5 c).length≤200:=by
 obtain ⟨_,a1,a2,a3,_⟩:=J3n hp hk;exact Jw0 omg omg omg
theorem J4x (c:Node) (hp:Jq8 c) (hs:c.s.length≤1000000) (b:Bool):Det cx 126 [.ptr 1000 0 0,.p (.agg [.int .i64 c.kind,.int .i64 c.many,.str c.name,.str c.s,.bool c.neg,.int .i64 c.e])] [(1000,.var 109 [.p .nptr,.p .snil,.p (.bool b)])] (.tup []) [(900,.row 5 1 (bstr (Jrw c))),(1000,.var 109 [.ptr 1000 0 0,.own 900 0 (Jrw c).length,.p (.bool b)])]:=by
 have hN:=fun hk=>J2h c (Jzc hp hk)
 have hQ:=fun hv=>Kt c.s hs hv
 obtain ⟨k,m,nm,s,g,e⟩:=c;rcases Jth hp with h | h | h | h | h <;> simp only at h hN hQ <;> subst h
 ·have hW:=Jss [110,117,108,108] sm b;(refine bgoR false [(18,900)] Tryz.func126 ?_;simp only [go_sem,simprocAttr]);(repeat' (first | ((refine Jqa (hW) ?_);simp only [go_sem,simprocAttr]) | fail))
  all_goals exact ⟨rfl,rfl⟩
 ·have hW:=Jss [102,97,108,115,101] sm b;(refine bgoR false [(24,900)] Tryz.func126 ?_;simp only [go_sem,simprocAttr]);(repeat' (first | ((refine Jqa (hW) ?_);simp only [go_sem,simprocAttr]) | fail))
  all_goals exact ⟨rfl,rfl⟩
 ·have hW:=Jss [116,114,117,101] sm b;(refine bgoR false [(30,900)] Tryz.func126 ?_;simp only [go_sem,simprocAttr]);(repeat' (first | ((refine Jqa (hW) ?_);simp only [go_sem,simprocAttr]) | fail))
  all_goals exact ⟨rfl,rfl⟩
 ·have hN:=hN rfl;rw [Jsh] at hN;have hl:=Jug hp rfl;have hW:=Jss (Jq5 ⟨3,m,nm,s,g,e⟩) omg b;(refine bgoR false [(38,900)] Tryz.func126 ?_;simp only [go_sem,simprocAttr]);(refine Gi 5 hm kr kr ?_;simp only [go_sem,simprocAttr]);(repeat' (first | ((first | (refine Jqb (hN) ?_)|(refine Jqa (hW) ?_));simp only [go_sem,simprocAttr]) | fail))
  all_goals exact ⟨rfl,rfl⟩
 ·have hQ:=hQ (J4l hp rfl);have hl:=Jd4 s;have hW:=Jss (refQ s) (by simp only at hs;omega) b;(refine bgoR false [(12,900)] Tryz.func126 ?_;simp only [go_sem,simprocAttr]);(refine Gi 6 hm kr kr ?_;simp only [go_sem,simprocAttr]);(repeat' (first | ((first | (refine Jqb (hQ) ?_)|(refine Jqa (hW) ?_));simp only [go_sem,simprocAttr]) | fail))
  all_goals exact ⟨rfl,rfl⟩
theorem J41 {c:Node} (hp:Jq8 c):(Jrw c).length≠0:=by
 rcases Jth hp with h | h | h | h | h
 ·unfold Jrw;rw [if_pos h];simp
 ·unfold Jrw;rw [if_neg omg,if_pos h];simp
 ·unfold Jrw;rw [if_neg omg,if_neg omg,if_pos h];simp
 ·unfold Jrw;rw [if_neg omg,if_neg omg,if_neg omg,if_pos h];intro h0;obtain ⟨a,r,e,_⟩:=Jyc (J3n hp h);rw [e] at h0;simp at h0
 ·unfold Jrw;rw [if_neg omg,if_neg omg,if_neg omg,if_neg omg];unfold refQ;simp
theorem J4b {c:Node} (hp:Jq8 c) (hs:c.s.length≤1000000):(Jrw c).length≤10000000:=by
 rcases Jth hp with h | h | h | h | h
 ·unfold Jrw;rw [if_pos h];simp
 ·unfold Jrw;rw [if_neg omg,if_pos h];simp
 ·unfold Jrw;rw [if_neg omg,if_neg omg,if_pos h];simp
 ·unfold Jrw;rw [if_neg omg,if_neg omg,if_neg omg,if_pos h];have:=Jug hp h;omega
 ·unfold Jrw;rw [if_neg omg,if_neg omg,if_neg omg,if_neg omg];have:=Jd4 c.s;omega
theorem J36 (c:Node) (hp:Jq8 c) (hs:c.s.length≤1000000) (b:Bool):Det cx 93 [.ptr 1000 0 0,.p (.sl [[.int .i64 c.kind,.int .i64 c.many,.str c.name,.str c.s,.bool c.neg,.int .i64 c.e]]),.p (.int .i64 0),.p (.int .i64 0)] [(1000,.var 109 [.p .nptr,.p .snil,.p (.bool b)])] (.p (.int .i64 1)) [(900,.row 5 1 (bstr (Jrw c))),(1000,.var 109 [.ptr 1000 0 0,.own 900 0 (Jrw c).length,.p (.bool b)])]:=by
 have hS:=J4x c hp hs b;have c1:(c.kind<5)=True:=eq_true hp.1;have w1:IntKind.i64.wrap (0+1)=1:=by decide
 have w2:IntKind.i64.wrap 1=1:=by decide
 have w0:IntKind.i64.wrap 0=0:=by decide
 (refine bgoR false [(23,900)] Tryz.func93 ?_;simp only [go_sem,simprocAttr,c1,w2]);(repeat' (first | ((refine Jqa (hS) ?_);simp only [go_sem,simprocAttr]) | fail))
theorem J2p (c:Node) (hp:Jq8 c) (hs:c.s.length≤1000000):Det cx 57 [.p (.sl [[.int .i64 c.kind,.int .i64 c.many,.str c.name,.str c.s,.bool c.neg,.int .i64 c.e]])] [] (.p (.str (Jrw c))) []:=by
 have hP:=J36 c hp hs false;have hS:=J33 (Jrw c) (Jrw c).length false rfl (by have:=J4b hp hs;omega) (J41 hp);(refine bgo Tryz.func57 ?_;simp only [go_sem,simprocAttr]);(repeat' (first | ((first | (refine Jqa (hP) ?_)|(refine Jqa (hS) ?_));simp only [go_sem,simprocAttr]) | fail))
def Js5:List (PV×PV):=[(.int .i64 5,.str [109,97,112]),(.int .i64 6,.str [109,97,112,95,118,97,108,117,101,115]),(.int .i64 7,.str [115,101,108,101,99,116]),(.int .i64 12,.str [103,114,111,117,112,95,98,121]),(.int .i64 13,.str [115,111,114,116,95,98,121]),(.int .i64 15,.str [100,101,108]),(.int .i64 10,.str [116,111,95,101,110,116,114,105,101,115]),(.int .i64 11,.str [102,114,111,109,95,101,110,116,114,105,101,115]),(.int .i64 14,.str [114,101,118,101,114,115,101])]
theorem J6j:Det cx 58 [] [] (.p (.mp Js5)) []:=by
 (refine bgo Tryz.func58 ?_;simp only [go_sem,simprocAttr,mput,Cl,Lc,Q9,Js5])
 skip
end Go.LX
