/- Where strings.TrimFunc leaves nothing of a text: where all are Jrj. -/
import Derived.Test.YtgfggbndbceppaaGreatDoorLxL
import Derived.Shelf.Strings.FuncGrows
import Derived.Lib.TrimUEq
import Derived.Lib.TrimAscii
import Derived.Test.YtgfggbndbceppaaGreatDoorLxT
import Derived.Test.YtgfggbndbceppaaGreatDoorLxN
import Derived.Lib.ItoaNum
import Derived.Lib.Repeat
import Derived.Lib.Bytealg
import Derived.Shelf.Strings.Builder1
import Derived.Shelf.Strings.Builder2
import Derived.Shelf.Strings.Trim
import Derived.Shelf.Small.Utf8
import Derived.Shelf.Small.Strs
import Derived.Shelf.Small.Wraps
import Derived.Shelf.Strings.BuilderF
import Derived.Shelf.Strconv.Atoi
import Derived.Shelf.Strconv.Itoa0
import Derived.Shelf.Strconv.Itoa1
import Derived.Shelf.LaysM
import Derived.Shelf.Strconv.Itoa2
import Derived.Shelf.Strconv.Itoa3
import Derived.Shelf.Strconv.Itoa4
import Derived.Shelf.Strconv.AtoiErrFast
import Derived.Shelf.Strconv.ParseIntEmpty
import Derived.Shelf.Strconv.AtoiFail
import Derived.Shelf.Strconv.Clone
import Derived.Shelf.Strconv.SyntaxError
import Derived.Shelf.LaysC
import Derived.Shelf.Strconv.ToError
import Derived.Shelf.Strconv.Lower
import Derived.Shelf.Strconv.ParseUint10
import Derived.Shelf.Strconv.ParseUint10Empty
import Derived.Shelf.Strconv.ParseUint10Any
import Derived.Shelf.Strconv.ParseInt10
import Derived.Shelf.Strconv.AtoiLong
import Derived.Shelf.Strconv.AtoiInnerAll
import Derived.Shelf.Strconv.RangeError
import Derived.Shelf.Strconv.ToErrorRange
import Derived.Shelf.Strconv.AtoiAll
import Derived.Shelf.Strconv.ErrVarAll
import Derived.Shelf.Strconv.ParseUintEmpty
import Derived.Shelf.Strings.Search1
import Derived.Shelf.GgClosure.StringsIndexFunc
import Derived.Shelf.GgClosure.StringsTrimFunc
import Derived.Shelf.Strings.Prefix
import Derived.Shelf.Unicode.Decode
import Derived.Shelf.Strings.Runes
import Derived.Shelf.Strings.IndexAny
import Derived.Shelf.Strings.AsciiSet
import Derived.Shelf.Strings.IndexAnyAll
import Derived.Shelf.Bits.Mul64
import Derived.Shelf.Strings.Repeat
import Derived.Shelf.Unicode.DecodeSlow
import Derived.Shelf.Unicode.DecodeAny
import Derived.Shelf.Unicode.DecodeLast
import Derived.Ground.Names2Prog
import Derived.Shelf.Slices.SearchI
import Derived.Test.YtgfggbndbceppaaGreatDoorProg
import Derived.Test.YtgfggbndbceppaaGreatDoorLxS
import Derived.Test.YtgfggbndbceppaaGreatDoorLxR
import Derived.Test.YtgfggbndbceppaaGreatDoorLxM
set_option linter.unusedSimpArgs false
set_option linter.unusedVariables false
set_option linter.unusedSectionVars false
set_option linter.unnecessarySimpa false
namespace Go.LX
open Go Go.RowKit Go.Proofs Go.Lib
def Kcw (c:UInt8):Bool:=decide (48≤c.toNat) && decide (c.toNat≤57)
def Jrj (s:List UInt8):Bool:=s.all Kcw
def figR (r:Nat):Bool:=decide (48≤r) && decide (r≤57)
theorem Jz9 {n b0 b1 b2 b3:Nat} (h:128≤b0):128≤(decodeN n b0 b1 b2 b3).1:=by
 unfold decodeN
 repeat' split
 all_goals first | omega | (simp_all;done)|(simp_all;omega)
theorem J63 {s:ByteArray} {pos:Nat} (h:figR (Utf8.decode s pos).1=true):figR (s.data.toList.getD pos 0).toNat=true∧(Utf8.decode s pos).2=1:=by
 rw [decode_N] at h ⊢;by_cases hb:(s.data.toList.getD pos 0).toNat<128
 ·rw [decodeN_ascii _ _ _ _ _ hb] at h ⊢;exact ⟨h,rfl⟩
 ·have:=Jz9 (n:=s.data.toList.length - pos) (b1:=(s.data.toList.getD (pos+1) 0).toNat) (b2:=(s.data.toList.getD (pos+2) 0).toNat) (b3:=(s.data.toList.getD (pos+3) 0).toNat) (by omega:128≤(s.data.toList.getD pos 0).toNat);simp only [figR,Bool.and_eq_true,decide_eq_true_eq] at h;omega
theorem J8m {s:ByteArray} {pos:Nat} (h:figR (s.data.toList.getD pos 0).toNat=true):Utf8.decode s pos=((s.data.toList.getD pos 0).toNat,1):=by
 rw [decode_N,decodeN_ascii];simp only [figR,Bool.and_eq_true,decide_eq_true_eq] at h;omega
theorem J5w {s:ByteArray}:∀ (f pos:Nat),s.size≤pos+f→idxFuncFrom figR false s f pos = -1→∀ j,pos≤j→j<s.size→figR (s.data.toList.getD j 0).toNat=true
 | 0,pos,hf,_,j,h1,h2=>by omega
 | f+1,pos,hf,h,j,h1,h2=>by
  unfold idxFuncFrom at h;rw [if_pos omg] at h;split at h
  ·omega
  ·rename_i hp;have hp':figR (Utf8.decode s pos).1=true:=by simpa using hp
   obtain ⟨g1,g2⟩:=J63 hp';by_cases hj:j=pos
   ·subst hj;exact g1
   ·rw [g2] at h;exact J5w f (pos+1) omg h j omg h2
theorem J6n {s:ByteArray}:∀ (f pos k:Nat),idxFuncFrom figR false s f pos=(k:Int)→k<s.size∧figR (s.data.toList.getD k 0).toNat=false
 | 0,pos,k,h=>by simp [idxFuncFrom] at h
 | f+1,pos,k,h=>by
  unfold idxFuncFrom at h;split at h
  ·rename_i hlt;split at h
   ·rename_i hp;have hk:pos=k:=by omega
    subst hk;refine ⟨hlt,?_⟩;cases hb:figR (s.data.toList.getD pos 0).toNat with
    | false=>rfl
    | true =>
     rw [J8m hb] at hp;simp only at hp;rw [hb] at hp;cases hp
   ·exact J6n f _ k h
  ·omega
theorem J0j {l:List UInt8} (hl:l≠[]) (h:figR (decodeLastL l).1=true):figR (l.getD (l.length - 1) 0).toNat=true∧(decodeLastL l).2=1:=by
 unfold decodeLastL at h ⊢;rw [if_neg hl] at h ⊢;split
 ·rename_i hb;rw [if_pos hb] at h;exact ⟨h,rfl⟩
 ·rename_i hb;rw [if_neg hb] at h;simp only at h;split at h
  ·rename_i hd;exfalso;have hlen:0<l.length:=List.length_pos_iff.2 hl;have hfig:(decodeL (l.drop (lastStart l))).1<128:=by simp [figR] at h;omega
   generalize hq:l.drop (lastStart l)=q at hfig hd;cases q with
   | nil =>
    have:=congrArg List.length hq;simp only [List.length_drop,List.length_nil] at this;rw [show (decodeL []).2=1 from by decide] at hd;omega
   | cons c r =>
    have hc:c.toNat<128:=by
     by_cases hc:c.toNat<128
     ·exact hc
     ·exfalso;simp only [decodeL] at hfig;rw [decode_N] at hfig;simp only [List.getD_cons_zero] at hfig;have:=fun n b1 b2 b3=>Jz9 (n:=n) (b1:=b1) (b2:=b2) (b3:=b3) (by omega:128≤c.toNat)
      exact absurd hfig (Nat.not_lt.2 (this _ _ _ _))
    rw [decodeL_ascii c r hc] at hd;simp only at hd;have hlr:r=[]:=by
     have:=congrArg List.length hq;simp at this;exact List.eq_nil_of_length_eq_zero omg
    subst hlr;have e:l.getD (l.length - 1) 0=c:=by
     have h1:l[lastStart l]? = some c:=by
      have:=congrArg (fun x=>x[0]?) hq;simpa using this
     have h2:l.length - 1=lastStart l:=by omega
     rw [h2];simp [List.getD_eq_getElem?_getD,h1]
    rw [e] at hb;exact hb hc
  ·exfalso;simp [figR,Utf8.runeError] at h
theorem J22 {s:ByteArray}:∀ (f i:Nat),i≤f→i≤s.size→lastIdxFuncFrom figR false s f i = -1→∀ j,j<i→figR (s.data.toList.getD j 0).toNat=true
 | 0,i,hf,_,h,j,hj=>by omega
 | f+1,i,hf,hs,h,j,hj=>by
  unfold lastIdxFuncFrom at h;rw [if_pos omg] at h;split at h
  ·omega
  ·rename_i hp;have hsz:s.data.toList.length=s.size:=by simp
   have hl:(s.data.toList.take i).length=i:=by rw [List.length_take];omega
   have hp':figR (decodeLastL (s.data.toList.take i)).1=true:=by simpa using hp
   obtain ⟨g1,g2⟩:=J0j (by intro hn;rw [hn] at hl;simp at hl;omega) hp';rw [hl] at g1;rw [g2] at h;by_cases hji:j=i - 1
   ·subst hji;have:(s.data.toList.take i).getD (i - 1) 0=s.data.toList.getD (i - 1) 0:=by
     simp [List.getD_eq_getElem?_getD,List.getElem?_take,show i - 1<i by omega]
    rw [← this];exact g1
   ·exact J22 f (i - 1) omg omg h j omg
theorem Jyx {l:List UInt8}:Jrj l=true ↔ ∀ j,j<l.length→figR (l.getD j 0).toNat=true:=by
 simp only [Jrj,List.all_eq_true];constructor
 ·intro h j hj;have:=h l[j] (List.getElem_mem hj);simpa [List.getD_eq_getElem?_getD,hj,figR,Kcw] using this
 ·intro h x hx;obtain ⟨j,hj,rfl⟩:=List.getElem_of_mem hx;simpa [List.getD_eq_getElem?_getD,hj,figR,Kcw] using h j hj
theorem Jub (s:ByteArray):s.data.toList.length=s.size:=by simp
theorem J2e (s:ByteArray):((trimF figR s).data.toList == [])=Jrj s.data.toList:=by
 unfold trimF;by_cases hk:idxFunc figR false s = -1
 ·have h1:Jrj s.data.toList=true:=by
   rw [Jyx];intro j hj;rw [Jub] at hj;exact J5w s.size 0 omg hk j (Nat.zero_le _) hj
  rw [h1];unfold trimLeftF;rw [if_pos hk];unfold trimRightF;simp [ByteArray.data_extract]
 ·obtain ⟨k,hk2⟩:∃ k:Nat,idxFunc figR false s=k:=by
   rcases idxFunc_range figR false s with h | ⟨h,_⟩
   ·exact absurd h hk
   ·exact ⟨_,(Int.toNat_of_nonneg h).symm⟩
  obtain ⟨h1,h2⟩:=J6n _ _ _ hk2;have h3:Jrj s.data.toList=false:=by
   cases hf:Jrj s.data.toList with
   | false=>rfl
   | true =>
    rw [Jyx] at hf;rw [hf k (by rw [Jub];exact h1)] at h2;cases h2
  rw [h3];have ht:trimLeftF figR s=s.extract k s.size:=by
   unfold trimLeftF;rw [if_neg hk,hk2];simp
  rw [ht];generalize hte:s.extract k s.size=t;have htl:t.data.toList=s.data.toList.drop k:=by
   rw [← hte];simp [ByteArray.data_extract,Array.toList_extract];rw [List.take_of_length_le sm]
  have hts:t.size=s.size - k:=by rw [← Jub,htl,List.length_drop,Jub]
  have h0:figR (t.data.toList.getD 0 0).toNat=false:=by
   rw [htl];simpa [List.getD_eq_getElem?_getD,List.getElem?_drop] using h2
  have hlast:0≤lastIdxFunc figR false t:=by
   rcases lastIdxFuncFrom_range figR false t t.size t.size with h | ⟨h,_⟩
   ·have:=J22 t.size t.size (Nat.le_refl _) (Nat.le_refl _) h 0 omg;rw [h0] at this;cases this
   ·exact h
  have hpos:1≤rightEndF figR t:=by
   unfold rightEndF;rw [if_pos hlast];unfold decodeGoB;by_cases hz:(lastIdxFunc figR false t).toNat=0
   ·rw [hz];have hsz:(t.extract 0 t.size).size=t.size:=by simp
    rw [if_neg (by rw [hsz];omega)];have:=decodeN_ge1;rw [decode_N];have:=this ((t.extract 0 t.size).data.toList.length - 0) ((t.extract 0 t.size).data.toList.getD 0 0).toNat ((t.extract 0 t.size).data.toList.getD (0+1) 0).toNat ((t.extract 0 t.size).data.toList.getD (0+2) 0).toNat ((t.extract 0 t.size).data.toList.getD (0+3) 0).toNat;omega
   ·omega
  have:(trimRightF figR t).data.toList≠[]:=by
   intro hn;unfold trimRightF at hn;have e:(t.extract 0 (rightEndF figR t)).data.toList=t.data.toList.take (rightEndF figR t):=by simp [ByteArray.data_extract,Array.toList_extract]
   rw [e] at hn;have hl:=congrArg List.length hn;rw [List.length_take,Jub] at hl;simp only [List.length_nil] at hl;omega
  simpa using this
end Go.LX
namespace Go.LX
end Go.LX
namespace Go.LX
open Go Go.Proofs
abbrev Node.pv (n:Node):List PV:=n.cells
theorem Jr9 (n:Node):n.pv=[.int .i64 n.kind,.int .i64 n.many,.str n.name,.str n.s,.bool n.neg,.int .i64 n.e]:=(rfl)
def Jzh (many e:Int):Bool:=decide (-1000≤e) && decide (e≤1000) && decide (many+e≤1000)
theorem Jt7 {m e:Int}:Jzh m e=false ↔ e < -1000∨1000<e∨1000<m+e:=by
 simp only [Jzh];by_cases h1:-1000≤e <;> by_cases h2:e≤1000 <;> by_cases h3:m+e≤1000 <;> simp [h1,h2,h3] <;> omega
def Jsa (n:Node):Bool :=
 if ¬ n.kind=3 then false else if ¬ n.many=0 then false else if ¬ n.name.length=0 then false else if Jrj n.s=false then false else if 100<(n.s.length:Int) then false else
 if n.e < -1000 then false else if 1000<n.e then false else if 1000<(n.s.length:Int)+n.e then false else
 if n.s.length=0 then (if n.neg=false then n.e == 0 else false) else (if ¬ (at_ n.s 0:Int)=48 then ((at_ n.s (n.s.length - 1):Int) != 48) else false)
def cmpI (a b:Int):Int:=if a<b then -1 else if b<a then 1 else 0
def cmpS (a b:List UInt8):Int:=if Op.bytesLess a b=true then -1 else if (Op.bytesLess a b || a == b)=false then 1 else 0
def node0:Node:=⟨0,0,[],[],false,0⟩
def make (neg:Bool) (s:List UInt8) (e:Int):Node×Int :=
 if Jrj s=false then (node0,4) else
 if (Jqt s).length=0 then ({ node0 with kind:=3 },0) else
 if e < -100000000 then (node0,2) else if 100000000<e then (node0,2) else
 let t:=Jqz (Jqt s);let e':=e+((Jqt s).length - t.length)
 if 100<(t.length:Int) then (node0,2) else if e' < -1000 then (node0,2) else if 1000<(t.length:Int)+e' then (node0,2) else
 ({ node0 with kind:=3,s:=t,neg:=neg,e:=e' },0)
def Jzj (a b:Node):Int :=
 if a.s.length=0 then cmpI a.s.length b.s.length else if b.s.length=0 then cmpI a.s.length b.s.length else
 if ¬ cmpI (a.s.length+a.e) (b.s.length+b.e)=0 then cmpI (a.s.length+a.e) (b.s.length+b.e) else cmpS a.s b.s
def Jzz (a b:Node):Int :=
 if a.neg=true∧b.neg=false then -1 else if b.neg=true∧a.neg=false then 1 else if a.neg=true then Jzj b a else Jzj a b
structure Node.small (n:Node):Prop where
 s:n.s.length≤1000000
 e1:-1000000≤n.e
 e2:n.e≤1000000
def Kfc (f g:Int→Int) (side:Int):Nat→Int→Int
 | 0,_=>0
 | n+1,p=>if f p<g p then -side else if g p<f p then side else Kfc f g side n (p - 1)
def Jrg (n:Node):List UInt8:=if n.neg=true then [45] else []
def Jq8 (n:Node):List UInt8 :=
 if n.s.length=0 then [48] else
 if 0≤n.e∧(n.s.length:Int)+n.e≤20 then Jrg n ++ n.s ++ Lib.repeatL [48] n.e.toNat else
 if n.e<0∧-20≤n.e then
  Jrg n ++ (Lib.repeatL [48] (1 - n.e - n.s.length).toNat ++ n.s).take (((Lib.repeatL [48] (1 - n.e - n.s.length).toNat ++ n.s).length:Int)+n.e).toNat ++ [46] ++ (Lib.repeatL [48] (1 - n.e - n.s.length).toNat ++ n.s).drop (((Lib.repeatL [48] (1 - n.e - n.s.length).toNat ++ n.s).length:Int)+n.e).toNat
 else Jrg n ++ n.s ++ [101] ++ Lib.itoa n.e
def val (l:List UInt8):Int:=l.foldl (fun n c=>n * 10+((c.toNat:Int) - 48)) 0
end Go.LX
namespace Go.Proofs
open Go.Shelf
def Tryz_lays160_renX:Go.Shelf.Ren:=⟨fun | 160=>208 | 232=>221 | 231=>217 | 227=>218 | 234=>222 | 233=>219 | 236=>223 | 235=>220 | 228=>236 | 271=>238 | 151=>237 | 197=>228 | 120=>255 | 152=>254 | 260=>242 | 137=>206 | 119=>261 | 224=>262 | 225=>263 | 217=>230 | 266=>244 | n=>n,fun | 9=>9 | 4=>4 | 3=>3 | 5=>5 | 117=>231 | 116=>230 | 0=>0 | 124=>234 | 21=>21 | 105=>238 | 46=>140 | 119=>136 | 139=>139 | 138=>138 | n=>n,fun | 3=>0 | 4=>1 | n=>n⟩
theorem J2a:Go.Proofs.Lays.n160 Tryz.prog Tryz_lays160_renX:={
 mixed:=by kernel_rfl
 f119:=Tryz.func261.trans (congrArg some (by kernel_rfl))
 f120:=Tryz.func255.trans (congrArg some (by kernel_rfl))
 f137:=Tryz.func206.trans (congrArg some (by kernel_rfl))
 f151:=Tryz.func237.trans (congrArg some (by kernel_rfl))
 f152:=Tryz.func254.trans (congrArg some (by kernel_rfl))
 f160:=Tryz.func208.trans (congrArg some (by kernel_rfl))
 f197:=Tryz.func228.trans (congrArg some (by kernel_rfl))
 f217:=Tryz.func230.trans (congrArg some (by kernel_rfl))
 f224:=Tryz.func262.trans (congrArg some (by kernel_rfl))
 f225:=Tryz.func263.trans (congrArg some (by kernel_rfl))
 f227:=Tryz.func218.trans (congrArg some (by kernel_rfl))
 f228:=Tryz.func236.trans (congrArg some (by kernel_rfl))
 f231:=Tryz.func217.trans (congrArg some (by kernel_rfl))
 f232:=Tryz.func221.trans (congrArg some (by kernel_rfl))
 f233:=Tryz.func219.trans (congrArg some (by kernel_rfl))
 f234:=Tryz.func222.trans (congrArg some (by kernel_rfl))
 f235:=Tryz.func220.trans (congrArg some (by kernel_rfl))
 f236:=Tryz.func223.trans (congrArg some (by kernel_rfl))
 f260:=Tryz.func242.trans (congrArg some (by kernel_rfl))
 f266:=Tryz.func244.trans (congrArg some (by kernel_rfl))
 f271:=Tryz.func238.trans (congrArg some (by kernel_rfl))
 t0:=Tryz.underlying0
 a0:=Tryz.isAgg0
 z0:=Tryz.sizeOf0
 v0:=Tryz.zeroValue0
 t3:=Tryz.underlying3
 a3:=Tryz.isAgg3
 z3:=Tryz.sizeOf3
 v3:=Tryz.zeroValue3
 t4:=Tryz.underlying4
 a4:=Tryz.isAgg4
 z4:=Tryz.sizeOf4
 v4:=Tryz.zeroValue4
 t5:=Tryz.underlying5
 a5:=Tryz.isAgg5
 z5:=Tryz.sizeOf5
 v5:=Tryz.zeroValue5
 t9:=Tryz.underlying9
 a9:=Tryz.isAgg9
 z9:=Tryz.sizeOf9
 v9:=Tryz.zeroValue9
 t21:=Tryz.underlying21
 a21:=Tryz.isAgg21
 z21:=Tryz.sizeOf21
 v21:=Tryz.zeroValue21
 t46:=Tryz.underlying140
 a46:=Tryz.isAgg140
 z46:=Tryz.sizeOf140
 v46:=Tryz.zeroValue140
 t105:=Tryz.underlying238
 a105:=Tryz.isAgg238
 z105:=Tryz.sizeOf238
 v105:=Tryz.zeroValue238
 t116:=Tryz.underlying230
 a116:=Tryz.isAgg230
 z116:=Tryz.sizeOf230
 t117:=Tryz.underlying231
 a117:=Tryz.isAgg231
 z117:=Tryz.sizeOf231
 v117:=Tryz.zeroValue231
 t119:=Tryz.underlying136
 a119:=Tryz.isAgg136
 z119:=Tryz.sizeOf136
 t124:=Tryz.underlying234
 a124:=Tryz.isAgg234
 z124:=Tryz.sizeOf234
 v124:=Tryz.zeroValue234
 t138:=Tryz.underlying138
 a138:=Tryz.isAgg138
 z138:=Tryz.sizeOf138
 v138:=Tryz.zeroValue138
 t139:=Tryz.underlying139
 a139:=Tryz.isAgg139
 z139:=Tryz.sizeOf139
 v139:=Tryz.zeroValue139
 g3:=by kernel_rfl
 g4:=by kernel_rfl }
open Go.RowKit in
theorem Tryz.strings_Trim_one (s:ByteArray) (c:UInt8) (hc:c.toNat<128) (w:World) (hs:s.size≤9223372036854775807) :
  Calls Tryz.prog 208 #[.string s,.string ⟨#[c]⟩] w fun e w'=>e=.returned (.string ⟨(Lib.trimB s.data.toList c).toArray⟩)∧(w'=w∨w'=w.drew):=Any.strings_Trim_one J2a s c hc w hs
def Tryz_lays237_renX:Go.Shelf.Ren:=⟨fun | 237=>215 | 272=>235 | 238=>234 | 315=>253 | 273=>252 | 197=>228 | 271=>238 | 260=>242 | 120=>255 | n=>n,fun | 9=>9 | 40=>227 | 4=>4 | 3=>3 | 105=>238 | 21=>21 | 0=>0 | 5=>5 | 119=>136 | 46=>140 | 139=>139 | 138=>138 | n=>n,fun | 3=>0 | 4=>1 | n=>n⟩
theorem J2f:Go.Proofs.Lays.n237 Tryz.prog Tryz_lays237_renX:={
 mixed:=by kernel_rfl
 f120:=Tryz.func255.trans (congrArg some (by kernel_rfl))
 f197:=Tryz.func228.trans (congrArg some (by kernel_rfl))
 f237:=Tryz.func215.trans (congrArg some (by kernel_rfl))
 f238:=Tryz.func234.trans (congrArg some (by kernel_rfl))
 f260:=Tryz.func242.trans (congrArg some (by kernel_rfl))
 f271:=Tryz.func238.trans (congrArg some (by kernel_rfl))
 f272:=Tryz.func235.trans (congrArg some (by kernel_rfl))
 f273:=Tryz.func252.trans (congrArg some (by kernel_rfl))
 f315:=Tryz.func253.trans (congrArg some (by kernel_rfl))
 t0:=Tryz.underlying0
 a0:=Tryz.isAgg0
 z0:=Tryz.sizeOf0
 v0:=Tryz.zeroValue0
 t3:=Tryz.underlying3
 a3:=Tryz.isAgg3
 z3:=Tryz.sizeOf3
 v3:=Tryz.zeroValue3
 t4:=Tryz.underlying4
 a4:=Tryz.isAgg4
 z4:=Tryz.sizeOf4
 v4:=Tryz.zeroValue4
 t5:=Tryz.underlying5
 a5:=Tryz.isAgg5
 z5:=Tryz.sizeOf5
 v5:=Tryz.zeroValue5
 t9:=Tryz.underlying9
 a9:=Tryz.isAgg9
 z9:=Tryz.sizeOf9
 v9:=Tryz.zeroValue9
 t21:=Tryz.underlying21
 a21:=Tryz.isAgg21
 z21:=Tryz.sizeOf21
 v21:=Tryz.zeroValue21
 t40:=Tryz.underlying227
 a40:=Tryz.isAgg227
 z40:=Tryz.sizeOf227
 v40:=Tryz.zeroValue227
 t46:=Tryz.underlying140
 a46:=Tryz.isAgg140
 z46:=Tryz.sizeOf140
 v46:=Tryz.zeroValue140
 t105:=Tryz.underlying238
 a105:=Tryz.isAgg238
 z105:=Tryz.sizeOf238
 v105:=Tryz.zeroValue238
 t119:=Tryz.underlying136
 a119:=Tryz.isAgg136
 z119:=Tryz.sizeOf136
 t138:=Tryz.underlying138
 a138:=Tryz.isAgg138
 z138:=Tryz.sizeOf138
 v138:=Tryz.zeroValue138
 t139:=Tryz.underlying139
 a139:=Tryz.isAgg139
 z139:=Tryz.sizeOf139
 v139:=Tryz.zeroValue139
 g3:=by kernel_rfl
 g4:=by kernel_rfl }
open Go.RowKit Go.Lib in
theorem Tryz.strings_TrimFunc_grows (g:Nat) (lb:Array Value) (eg:∀ args w,(callFunc g args).run Tryz.prog w=.ok (.enter g args) w) (p:Nat→Bool) (s:ByteArray) (w:World) (hs:s.size≤9223372036854775807) (hT:Lib.Utf8Tabs 0 1 w) (hp:PredGrows Tryz.prog g lb p w) :
  Calls Tryz.prog 215 #[.string s,.func (.func g) #[] lb] w fun e w'=>e=.returned (.string (Lib.trimF p s))∧Below w.heap.size w w':=Any.strings_TrimFunc_grows J2f g lb eg p s w hs hT hp
end Go.Proofs
set_option maxRecDepth 100000
set_option maxHeartbeats 2000000
namespace Go.LX
open Go Go.RowKit Go.Proofs
attribute [local irreducible] Al SWP Bi
theorem Jwv (s:List UInt8):Jrj s=Pk s:=rfl
theorem J26 (m e:Int) (hm1:0≤m) (hm2:m≤1000000):Det cx 196 [.p (.int .i64 m),.p (.int .i64 e)] [] (.p (.bool (Jzh m e))) []:=by
 (refine bgo Tryz.func196 ?_;simp only [go_sem,simprocAttr])
 (repeat' (first | (split) | fail)) <;> simp (disch:=omega) [Jzh,Aa, *] <;> omega
theorem J46 (c:Nat):Det cx 216 [.p (.int .i32 c)] [] (.p (.bool (decide (48≤c) && decide (c≤57)))) []:=by
 (refine bgo Tryz.func216 ?_;simp only [go_sem,simprocAttr])
 (repeat' (first | (split) | fail)) <;> (rw [Bool.eq_iff_iff];first | omega | (simp [-List.length_eq_zero_iff,Ac, *];done)|(simp [-List.length_eq_zero_iff,Ac, *];omega))
theorem J5u (a:Int):Det cx 224 [.p (.int .i64 a)] [] (.p (.bool false)) []:=by
 (refine bgo Tryz.func224 ?_;simp only [go_sem,simprocAttr])
theorem J6z (a:List UInt8):Det cx 226 [.p (.str a)] [] (.p (.bool false)) []:=by
 (refine bgo Tryz.func226 ?_;simp only [go_sem,simprocAttr])
theorem Jxd (a b:Int):Det cx 197 [.p (.int .i64 a),.p (.int .i64 b)] [] (.p (.int .i64 (cmpI a b))) []:=by
 (refine bgo Tryz.func197 ?_;simp only [go_sem,simprocAttr]);(repeat' (first | (apply iteI <;> intro h)|((refine Jqa (J5u _) ?_);simp only [go_sem,simprocAttr]) | fail))
 all_goals simp [cmpI, *]
theorem J8x (a b:List UInt8):Det cx 199 [.p (.str a),.p (.str b)] [] (.p (.int .i64 (cmpS a b))) []:=by
 (refine bgo Tryz.func199 ?_;simp only [go_sem,simprocAttr]);(repeat' (first | (apply iteI <;> intro h)|((refine Jqa (J6z _) ?_);simp only [go_sem,simprocAttr]) | fail))
 all_goals simp_all [cmpS]
theorem nm_eta (x:ByteArray):(⟨⟨x.data.toList⟩⟩:ByteArray)=x:=by rcases x with ⟨⟨l⟩⟩;rfl
theorem J8y (s:List UInt8) (hs:s.length≤9223372036854775807):Det cx 215 [.p (.str s),.fn 216 []] [] (.p (.str (Lib.trimF figR ⟨⟨s⟩⟩).data.toList)) []:=by
 have he:Enters cx.P 216:=enters_of Tryz.func216 krf rfl;refine Jrh (v:=.string (Lib.trimF figR ⟨⟨s⟩⟩)) (enters_of Tryz.func215 krf rfl) rfl (fun β w Im=>?_) fun β Im w vs hg hf=>?_
 ·have:=PRep.str (w:=w) (Im:=Im) (Lib.trimF figR ⟨⟨s⟩⟩).data.toList;rw [nm_eta] at this;exact this
 ·obtain ⟨v,u,rfl,h1,h2⟩:=fit2 hf;cases Ks h1;cases Kfj h2;refine Tryz.strings_TrimFunc_grows 216 #[] he figR ⟨⟨s⟩⟩ w hs (Jbj hg).tabs fun W x hx hb=>?_
  have hi:∀ b,Im b→b<W.heap.size:=fun b hb'=>Nat.lt_of_lt_of_le (hf.im b hb') hb.size
  exact (J46 x).calls_below (w:=W) (Im:=Im) (cx.mono ⟨fun _ h=>h,fun b hb'=>hb.block b (hf.im b hb')⟩ hg) hi (vs:=[.int .i32 x]) rfl
   (fun i v a hv ha=>by cases i with | zero=>simp at hv ha;subst hv;subst ha;exact PRep.int _ _ | succ i=>simp at hv) (fun β w' Im' u hu=>Na hu)
theorem Jzc (s:List UInt8) (hs:s.length≤9223372036854775807):Det cx 193 [.p (.str s)] [] (.p (.bool (Jrj s))) []:=by
 (refine bgo Tryz.func193 ?_;simp only [go_sem,simprocAttr]);(repeat' (first | ((refine Jqa (J8y s hs) ?_);simp only [go_sem,simprocAttr]) | fail));exact J2e ⟨⟨s⟩⟩
theorem d_Trim (s:List UInt8) (hs:s.length≤9223372036854775807):Det cx 208 [.p (.str s),.p (.str [48])] [] (.p (.str (Jqt (Jqz s)))) []:=by
 refine Jrh (v:=.string ⟨⟨Jqt (Jqz s)⟩⟩) (enters_of Tryz.func208 krf rfl) rfl (fun β w Im=>PRep.str _) fun β Im w vs hg hf=>?_
 obtain ⟨v,u,rfl,h1,h2⟩:=fit2 hf;cases Ks h1;cases Ks h2;refine (Tryz.strings_Trim_one ⟨⟨s⟩⟩ 48 de w hs).mono fun e w' ⟨h,hw⟩=>⟨h,?_⟩
 rcases hw with rfl | rfl
 ·exact Below.refl _ _
 ·exact (Below.refl _ _).drew
theorem J17 (n:Node) (hs:n.s.length≤1000000):Det cx 177 [.p (.agg n.pv)] [] (.p (.bool (Jsa n))) []:=by
 (refine bgo Tryz.func177 ?_;simp only [go_sem,simprocAttr,Jr9]);(repeat' (first | (apply iteI <;> intro h)|((first | (refine Jqp ?_)|(refine Jqa (Jzc _ omg) ?_)|(refine Jqa (J26 _ _ omg omg) ?_)|(refine Jqg (d_Trim _ omg) ?_));simp only [go_sem,simprocAttr]) | fail))
 all_goals (try simp (disch:=omega) only [Aa,Qs,Ab,Jlh,Mf,Ja0,Jcc,Ja7,Jak] at *)
 ·simp [-List.length_eq_zero_iff,Ac,Jsa, *]
 ·simp [-List.length_eq_zero_iff,Ac,Jsa, *]
 ·simp [-List.length_eq_zero_iff,Ac,Jsa, *]
 ·simp [-List.length_eq_zero_iff,Ac,Jsa, *]
 ·rw [Jt7] at h;rw [Bool.eq_iff_iff];simp [-List.length_eq_zero_iff,Ac,Jsa]
  intros
  omega
 ·simp [-List.length_eq_zero_iff,Ac,Jsa, *]
 ·rename_i hP _ _;rw [Jt7] at hP;have c1:¬ n.e < -1000:=by omega
  have c2:¬ 1000<n.e:=by omega
  have c3:¬ 1000<(n.s.length:Int)+n.e:=by omega
  simp [-List.length_eq_zero_iff,Ac,Jsa, *]
 ·rename_i hP _ _;rw [Jt7] at hP;have c1:¬ n.e < -1000:=by omega
  have c2:¬ 1000<n.e:=by omega
  have c3:¬ 1000<(n.s.length:Int)+n.e:=by omega
  simp [-List.length_eq_zero_iff,Ac,Jsa, *]
 ·rename_i hP _;rw [Jt7] at hP;have c1:¬ n.e < -1000:=by omega
  have c2:¬ 1000<n.e:=by omega
  have c3:¬ 1000<(n.s.length:Int)+n.e:=by omega
  rw [Bool.eq_iff_iff,beq_iff_eq,Kff omg];simp [-List.length_eq_zero_iff,Ac,Jsa, *];omega
end Go.LX
set_option maxRecDepth 100000
set_option maxHeartbeats 2000000
namespace Go.LX
open Go Go.RowKit Go.Proofs
attribute [local irreducible] Al SWP Bi
theorem Kc2 (a b:Node) (ha:a.small) (hb:b.small):Det cx 225 [.p (.agg a.pv),.p (.agg b.pv)] [] (.p (.int .i64 (Jzj a b))) []:=by
 obtain ⟨a1,a2,a3⟩:=ha;obtain ⟨b1,b2,b3⟩:=hb;(refine bgo Tryz.func225 ?_;simp only [go_sem,simprocAttr,Jr9]);simp (disch:=omega) only [Aa];(repeat' (first | (apply iteI <;> intro h)|((first | (refine Jqa (Jxd _ _) ?_)|(refine Jqa (J8x _ _) ?_));simp only [go_sem,simprocAttr]) | fail))
 all_goals simp_all [Jzj]
theorem Kcy (a b:Node) (ha:a.small) (hb:b.small):Det cx 198 [.p (.agg a.pv),.p (.agg b.pv)] [] (.p (.int .i64 (Jzz a b))) []:=by
 (refine bgo Tryz.func198 ?_;simp only [go_sem,simprocAttr,Jr9]);(repeat' (first | (apply iteI <;> intro h)|((first | (refine Jqa (Kc2 a b ha hb) ?_)|(refine Jqa (Kc2 b a hb ha) ?_));simp only [go_sem,simprocAttr]) | fail))
 all_goals simp_all [Jzz]
end Go.LX
namespace Go.LX
open Go Go.Proofs
def dig (s:List UInt8):Nat:=s.foldl (fun n c=>n * 10+(c.toNat - 48)) 0
def digF (n:Nat) (s:List UInt8):Nat:=s.foldl (fun n c=>n * 10+(c.toNat - 48)) n
structure RightN (n:Node):Prop where
 kind:n.kind=3
 many:n.many=0
 name:n.name=[]
 figs:Jrj n.s=true
 len:n.s.length≤100
 e1:-1000≤n.e
 e2:n.e≤1000
 top:(n.s.length:Int)+n.e≤1000
 zero:n.s.length=0→n.neg=false∧n.e=0
 head:0<n.s.length→at_ n.s 0≠48
 last:0<n.s.length→at_ n.s (n.s.length - 1)≠48
theorem J0o (n:Node):Jsa n=true ↔ RightN n:=by
 constructor
 ·intro h;unfold Jsa at h;split at h
  ·cases h
  split at h
  ·cases h
  split at h
  ·cases h
  split at h
  ·cases h
  split at h
  ·cases h
  split at h
  ·cases h
  split at h
  ·cases h
  split at h
  ·cases h
  rename_i h1 h2 h3 h4 h5 h6 h7 h8;have hn:n.name=[]:=List.eq_nil_of_length_eq_zero omg;have hf:Jrj n.s=true:=by simpa using h4
  split at h
  ·split at h
   ·exact ⟨by omega,by omega,hn,hf,by omega,by omega,by omega,by omega,fun _=>⟨by assumption,by simpa using h⟩,fun h=>by omega,fun h=>by omega⟩
   ·cases h
  ·split at h
   ·exact ⟨by omega,by omega,hn,hf,by omega,by omega,by omega,by omega,fun h=>by omega,fun _=>by omega,fun _ hh=>by simp [hh] at h⟩
   ·cases h
 ·intro h;obtain ⟨g1,g2,g3,g4,g5,g6,g7,g8,g9,g10,g11⟩:=h;unfold Jsa;rw [if_neg omg,if_neg omg,if_neg (by simp [g3]),if_neg (by simp [g4]),if_neg omg,if_neg omg,if_neg omg,if_neg omg];split
  ·rename_i h0;obtain ⟨k1,k2⟩:=g9 h0;rw [if_pos k1];simp [k2]
  ·rename_i h0;have k1:=g10 omg;have k2:=g11 omg;rw [if_pos omg];simp;omega
theorem RightN.small {n:Node} (h:RightN n):n.small:=⟨by have:=h.len;omega,by have:=h.e1;omega,by have:=h.e2;omega⟩
def mag (n:Node):Nat:=dig n.s * 10 ^ (n.e+1000).toNat
def cmp3 (side:Int) (x y:Nat):Int:=if x<y then -side else if y<x then side else 0
def Node.flip (n:Node):Node:={ n with neg:=!n.neg && (n.s != []) }
theorem RightN.flip {n:Node} (h:RightN n):RightN n.flip:=by
 obtain ⟨g1,g2,g3,g4,g5,g6,g7,g8,g9,g10,g11⟩:=h;refine ⟨g1,g2,g3,g4,g5,g6,g7,g8,fun h0=>⟨?_,(g9 h0).2⟩,g10,g11⟩;have:n.s=[]:=List.eq_nil_of_length_eq_zero h0;simp [Node.flip,this]
end Go.LX
namespace Go.LX
open Go Go.RowKit Go.Proofs
attribute [local irreducible] Al SWP Bi
def lexI {α β:Type} (c:α→β→Int):List α→List β→Int
 | [],[]=>0
 | [],_ :: _=>-1
 | _ :: _,[]=>1
 | x :: l,y :: m=>if c x y=0 then lexI c l m else c x y
theorem Kb7 {α β:Type} {c:α→β→Int} {l:List α} {m:List β} {i:Nat} {x:α} {y:β} (hx:l[i]? = some x) (hy:m[i]? = some y) :
  lexI c (l.drop i) (m.drop i)=if c x y=0 then lexI c (l.drop (i+1)) (m.drop (i+1)) else c x y:=by
 obtain ⟨h1,rfl⟩:=List.getElem?_eq_some_iff.1 hx;obtain ⟨h2,rfl⟩:=List.getElem?_eq_some_iff.1 hy;rw [List.drop_eq_getElem_cons h1,List.drop_eq_getElem_cons h2,lexI]
theorem J6v {α β:Type} {c:α→β→Int} {l:List α} {m:List β} {i:Nat} (h:l.length≤i) (hm:i<m.length):lexI c (l.drop i) (m.drop i) = -1:=by
 rw [List.drop_eq_nil_of_le h,List.drop_eq_getElem_cons hm,lexI]
theorem J56 {α β:Type} {c:α→β→Int} {l:List α} {m:List β} {i:Nat} (h:l.length≤i) (hm:m.length≤i):lexI c (l.drop i) (m.drop i)=0:=by
 rw [List.drop_eq_nil_of_le h,List.drop_eq_nil_of_le hm,lexI]
theorem J6f {α β:Type} {c:α→β→Int} {l:List α} {m:List β} {i:Nat} (h:i<l.length) (hm:m.length≤i):lexI c (l.drop i) (m.drop i)=1:=by
 rw [List.drop_eq_getElem_cons h,List.drop_eq_nil_of_le hm,lexI]
def ndN (s:List UInt8) (g:Bool) (e:Int):Node:=⟨3,0,[],s,g,e⟩
mutual
def cmpT:Tree→Tree→Int
 | .mk k s g e kids,.mk k' s' g' e' kids' =>
  if k=k' then (if k=3 then Jzz (ndN s g e) (ndN s' g' e') else if k=4 then cmpS s s' else
   if k=6 then (if lexI cmpS (kids.list.map (·.1)) (kids'.list.map (·.1))=0 then cmpF kids kids'.list else lexI cmpS (kids.list.map (·.1)) (kids'.list.map (·.1))) else
   if k=5 then cmpF kids kids'.list else 0) else cmpI k k'
def cmpF:Forest→List KT→Int
 | .nil,[]=>0
 | .nil,_ :: _=>-1
 | .cons _ _ _,[]=>1
 | .cons _ t r,q :: l=>if cmpT t q.2=0 then cmpF r l else cmpT t q.2
end
theorem Jvi {k:Int} {s:List UInt8} {g:Bool} {e:Int} {kids:Forest} {k':Int} {s':List UInt8} {g':Bool} {e':Int} {kids':Forest}:cmpT (.mk k s g e kids) (.mk k' s' g' e' kids') =
  if k=k' then (if k=3 then Jzz (ndN s g e) (ndN s' g' e') else if k=4 then cmpS s s' else
   if k=6 then (if lexI cmpS (kids.list.map (·.1)) (kids'.list.map (·.1))=0 then cmpF kids kids'.list else lexI cmpS (kids.list.map (·.1)) (kids'.list.map (·.1))) else
   if k=5 then cmpF kids kids'.list else 0) else cmpI k k':=by rw [cmpT]
theorem J06:∀ (f:Forest) (l:List KT),cmpF f l=lexI (fun p q:KT=>cmpT p.2 q.2) f.list l
 | .nil,[]=>by rw [cmpF];rfl
 | .nil,_ :: _=>by rw [cmpF];rfl
 | .cons _ _ _,[]=>by rw [cmpF];rfl
 | .cons _ t r,q :: l=>by rw [cmpF,J06 r l];rfl
theorem J2v {l:List KT} {i:Nat} {p:KT} (h:l[i]? = some p):(Bd l)[i]? = some [.str p.1]:=by simp [Bd,h]
theorem J61 {l:List KT} {i:Nat} {p:KT} (h:l[i]? = some p):(l.map (·.1))[i]? = some p.1:=by simp [h]
theorem J1n (l m:List KT) (hl:l.length≤1000000) (hlm:m.length≤1000000):Det cx 200 [.p (.sl (Bd l)),.p (.sl (Bd m))] [] (.p (.int .i64 (lexI cmpS (l.map (·.1)) (m.map (·.1))))) []:=by
 have e1:(l.map (·.1)).length=l.length:=List.length_map ..
 have e2:(m.map (·.1)).length=m.length:=List.length_map ..
 (refine bgo Tryz.func200 ?_;simp only [go_sem,simprocAttr,A9]);refine SWP.loop (fun i:Nat=>⟨Ba 36 [(0,.p (.sl (Bd l))),(1,.p (.sl (Bd m))),(9,.p (.sl (Bd l))),(10,.p (.int .i64 l.length)),(11,.p (.int .i64 i))],[]⟩) (fun i=>i≤l.length∧lexI cmpS (l.map (·.1)) (m.map (·.1))=lexI cmpS ((l.map (·.1)).drop i) ((m.map (·.1)).drop i)) (fun i=>l.length - i) 0 Jqb ⟨Nat.zero_le _,rfl⟩ ?_;rintro i ⟨h1,h3⟩;by_cases hi:i<l.length
 ·have c1:((i:Int)<(l.length:Int))=True:=eq_true omg;obtain ⟨x,hx⟩:∃ x,l[i]? = some x:=⟨_,List.getElem?_eq_getElem hi⟩
  have hgx:=J2v hx;by_cases hj:i<m.length
  ·have c2:((m.length:Int)≤(i:Int))=False:=eq_false omg;obtain ⟨y,hy⟩:∃ y,m[i]? = some y:=⟨_,List.getElem?_eq_getElem hj⟩
   have hgy:=J2v hy;have w1:=wj1 (i:=i) omg;have hk:=Kb7 (c:=cmpS) (J61 hx) (J61 hy);(refine lws ?_;simp only [go_sem,simprocAttr,A9,c1,c2,hgx,hgy]);(repeat' (first | (apply iteI <;> intro h)|((refine Jqa (J8x _ _) ?_);simp only [go_sem,simprocAttr,w1]) | fail))
   ·rw [h3,hk,if_neg h]
   ·exact ⟨i+1,⟨by omega,by rw [h3,hk,if_pos (Decidable.not_not.1 h)]⟩,by omega,Jqb⟩
  ·have c2:((m.length:Int)≤(i:Int))=True:=eq_true omg;(refine lws ?_;simp only [go_sem,simprocAttr,A9,c1,c2,hgx]);rw [h3,J6f omg omg]
 ·have c1:((i:Int)<(l.length:Int))=False:=eq_false omg;(refine lws ?_;simp only [go_sem,simprocAttr,A9,c1]);(repeat' (apply iteI <;> intro h))
  ·rw [h3,J6v omg omg]
  ·rw [h3,J56 omg omg]
theorem J9c {l:List KT} {i:Nat} {p:KT} (h:l[i]? = some p):(A4 l)[i]? = some [.sl (valL (p.2.enc []))]:=by simp [A4,h]
theorem Ju0 (a:Int):cmpI a a=0:=by simp [cmpI]
abbrev cmp2 (p q:KT):Int:=cmpT p.2 q.2
theorem J2o (l m:List KT) (hl:l.length≤1000000) (hlm:m.length≤1000000) (hc:∀ p∈l,∀ q∈m,Det cx 172 [.p (.sl (valL (p.2.enc []))),.p (.sl (valL (q.2.enc [])))] [] (.p (.int .i64 (cmp2 p q))) []) :
  Det cx 202 [.p (.sl (A4 l)),.p (.sl (A4 m)),.fn 172 []] [] (.p (.int .i64 (lexI cmp2 l m))) []:=by
 (refine bgo Tryz.func202 ?_;simp only [go_sem,simprocAttr,A5]);refine SWP.loop (fun i:Nat=>⟨Ba 39 [(0,.p (.sl (A4 l))),(1,.p (.sl (A4 m))),(2,.fn 172 []),(11,.p (.sl (A4 l))),(12,.p (.int .i64 l.length)),(13,.p (.int .i64 i))],[]⟩) (fun i=>i≤l.length∧lexI cmp2 l m=lexI cmp2 (l.drop i) (m.drop i)) (fun i=>l.length - i) 0 Jqb ⟨Nat.zero_le _,rfl⟩ ?_;rintro i ⟨h1,h3⟩;by_cases hi:i<l.length
 ·have c1:((i:Int)<(l.length:Int))=True:=eq_true omg;obtain ⟨x,hx⟩:∃ x,l[i]? = some x:=⟨_,List.getElem?_eq_getElem hi⟩
  have hgx:=J9c hx;by_cases hj:i<m.length
  ·have c2:((m.length:Int)≤(i:Int))=False:=eq_false omg;obtain ⟨y,hy⟩:∃ y,m[i]? = some y:=⟨_,List.getElem?_eq_getElem hj⟩
   have hgy:=J9c hy;have w1:=wj1 (i:=i) omg;have hk:=Kb7 (c:=cmp2) hx hy;have hxy:=hc x (List.mem_of_getElem? hx) y (List.mem_of_getElem? hy);(refine lws ?_;simp only [go_sem,simprocAttr,A5,c1,c2,hgx,hgy]);(repeat' (first | (apply iteI <;> intro h)|((refine Jqa (hxy) ?_);simp only [go_sem,simprocAttr,w1]) | fail))
   ·rw [h3,hk,if_neg h]
   ·exact ⟨i+1,⟨by omega,by rw [h3,hk,if_pos (Decidable.not_not.1 h)]⟩,by omega,Jqb⟩
  ·have c2:((m.length:Int)≤(i:Int))=True:=eq_true omg;(refine lws ?_;simp only [go_sem,simprocAttr,A5,c1,c2,hgx]);rw [h3,J6f omg omg]
 ·have c1:((i:Int)<(l.length:Int))=False:=eq_false omg;(refine lws ?_;simp only [go_sem,simprocAttr,A5,c1]);(repeat' (apply iteI <;> intro h))
  ·rw [h3,J6v omg omg]
  ·rw [h3,J56 omg omg]
theorem J6r {k m:Int} {nm s:List UInt8} {g:Bool} {e:Int} (h:Yz s g e):Node.small ⟨k,m,nm,s,g,e⟩:=by
 obtain ⟨_,h1,h2,h3,_⟩:=h;exact ⟨by show s.length≤_;omega,by show _≤e;omega,by show e≤_;omega⟩
theorem J3w {s:List UInt8} {g:Bool} {e:Int} (h:Yz s g e):RightN (ndN s g e):=by
 obtain ⟨h0,h1,h2,h3,h4,h5⟩:=h;refine ⟨rfl,rfl,rfl,h0,h1,h2,h3,h4,fun hz=>?_,fun hp=>?_,fun hp=>?_⟩
 ·have:s=[]:=List.eq_nil_of_length_eq_zero hz;rw [if_pos this] at h5;exact h5
 ·have:s≠[]:=by intro e;subst e;exact (Nat.lt_irrefl 0 hp).elim
  rw [if_neg this] at h5;exact h5.1
 ·have:s≠[]:=by intro e;subst e;exact (Nat.lt_irrefl 0 hp).elim
  rw [if_neg this] at h5;exact h5.2
theorem J41 {k m:Int} {s:List UInt8} {g:Bool} {e:Int} (h:G3 k s g e m) (hk:k=3):Yz s g e:=by
 subst hk;unfold G3 at h;simp at h;exact h.2
end Go.LX
namespace Go.LX
open Go Go.RowKit Go.Proofs
section
variable {X:Cx} {ro:Option Nat} {md:Region.Mode} {ops:Array Oper}
theorem J60 {k:Nat} {K:St→Prop} {i:Nat} {oi:Oper} {v:L} (hi:ops[i]? = some oi) (hik:i<k) (hA:∀ j,k≤j→j<ops.size→ancB md ops ops.size i j=true):∀ (fuel:Nat) (listed:Array Bool) (s:St),Down md ops listed →
   (∀ j oj,ops[j]? = some oj→j≠i→listed.getD j true=false→(∀ e∈oj.after,Region.binds md e=true→e.on≠i)→oi.apart ops oj=true) →
   i∈Region.ready md ops listed→YS X (ops.toList.map (·.dst)) s oi (fun m=>m=v) →
   Ty X md ops k K fuel (listed.setIfInBounds i true) (s.put oi.dst v)→Ty X md ops k K (fuel+1) listed s:=by
 intro fuel
 induction fuel with
 | zero =>
  intro listed s hd _ hr hy H;have only:∀ j∈Region.ready md ops listed,j=i:=by
   intro j hj;by_cases hji:j=i
   ·exact hji
   ·have:=ready_mono hj hji;rw [H.1] at this;cases this
  refine ⟨fun h=>(by rw [h] at hr;cases hr),fun j hj oj hoj=>?_⟩;have:=only j hj;subst this;rw [hi] at hoj;cases hoj;exact ⟨fun _=>Kr (fun l hl=>by rw [hl];exact H) hy,fun h=>by omega⟩
 | succ fuel ih =>
  intro listed s hd hfree hr hy H;refine ⟨fun h=>(by rw [h] at hr;cases hr),fun j hj oj hoj=>?_⟩;by_cases hji:j=i
  ·subst hji;rw [hi] at hoj;cases hoj;exact ⟨fun _=>Kr (fun l hl=>by rw [hl];exact H) hy,fun h=>by omega⟩
  ·have hjk:j<k:=by
    rcases Nat.lt_or_ge j k with h | h
    ·exact h
    ·exfalso;obtain ⟨_,oj',hoj',hall⟩:=mem_ready.1 hj;have h1:=Qb hd _ i j oj' hoj' hall (hA j h (Array.getElem?_eq_some_iff.1 hoj').1);have h2:=(Hn.1 (mem_ready.1 hr).1).2;rw [h1] at h2;cases h2
   refine ⟨fun _=>?_,fun h=>by omega⟩;have h1:=(H.2 j (ready_mono hj hji) oj hoj).1 hjk;obtain ⟨hjun,oj',hoj',hall⟩:=mem_ready.1 hj;rw [hoj] at hoj';cases hoj';have hnot:∀ e∈oj.after,Region.binds md e=true→e.on≠i:=fun e he hb heq=>by
    have h1:=hall e he hb;have h0:=(Hn.1 (mem_ready.1 hr).1).2;rw [heq] at h1;rw [h1] at h0;cases h0
   obtain ⟨a1,a2,a3⟩:=Oper.apart_spec (hfree j oj hoj hji hjun hnot);have hfree':∀ q ok,ops[q]? = some ok→q≠i→(listed.setIfInBounds j true).getD q true=false →
     (∀ e∈ok.after,Region.binds md e=true→e.on≠i)→oi.apart ops ok=true:=fun q ok hk hki hun hno=>by
    refine hfree q ok hk hki ?_ hno;by_cases hjk:j=q
    ·subst hjk;exact hjun
    ·rw [getD_set_ne true hjk] at hun;exact hun
   refine Kr (fun l hl=>?_) (Yr a1 h1);refine ih (listed.setIfInBounds j true) (s.put oj.dst l) (hd.set hj) hfree' (ready_mono hr (Ne.symm hji)) (Uk a3 hy) ?_;rw [Array.setIfInBounds_comm _ _ hji];rw [← Jt6 s v l a2];exact hl
def YSAt (X:Cx) (ds:List (Option Tmp)) (ops:List Oper) (i:Nat) (C:St→Prop) (s:St):Prop:=match ops[i]? with
 | some o=>YS X ds s o fun l=>C (s.put o.dst l)
 | none=>False
def Jwz (X:Cx) (ds:List (Option Tmp)) (ops:List Oper) (E:St→Prop):List Nat→St→Prop
 | [],s=>E s
 | i :: I,s=>YSAt X ds ops i (Jwz X ds ops E I) s
def J9r (md:Region.Mode) (ops:Array Oper) (k:Nat):List Nat→Array Bool→Bool
 | [],_=>true
 | i :: I,listed=>(Region.ready md ops listed).contains i && (Region.free md ops listed i && (decide (i<k) && ((List.range ops.size).all (fun j=>decide (j<k) || ancB md ops ops.size i j) && J9r md ops k I (listed.setIfInBounds i true))))
def J0i:List Nat→Array Bool→Array Bool
 | [],listed=>listed
 | i :: I,listed=>J0i I (listed.setIfInBounds i true)
theorem Jyy {k:Nat} {K:St→Prop} {fuel:Nat}:∀ (I:List Nat) (listed:Array Bool) (s:St),J9r md ops k I listed=true→Down md ops listed →
  Jwz X (ops.toList.map (·.dst)) ops.toList (Ty X md ops k K fuel (J0i I listed)) I s→Ty X md ops k K (fuel+I.length) listed s
 | [],listed,s,_,_,h=>h
 | i :: I,listed,s,hB,hd,h=>by
  simp only [J9r,Bool.and_eq_true,List.contains_eq_mem,decide_eq_true_eq] at hB;obtain ⟨h1,h2,h3,h4,h5⟩:=hB;obtain ⟨_,oi,hoi,_⟩:=mem_ready.1 h1;simp only [Jwz,YSAt] at h;rw [Array.getElem?_toList,hoi] at h;obtain ⟨v,hy,hK⟩:=Jab (X:=X) h;refine J60 hoi h3 (fun j hj hs=>?_) (fuel+I.length) listed s hd (Region.free_spec hoi h2) h1 hy (Jyy I _ _ h5 (hd.set h1) hK);have:=List.all_eq_true.1 h4 j (List.mem_range.2 hs);rw [Bool.or_eq_true,decide_eq_true_eq] at this;rcases this with h | h
  ·omega
  ·exact h
theorem Jzr {ds:List (Option Tmp)} {os:List Oper} {E E':St→Prop} (hE:∀ s,E s→E' s):∀ (I:List Nat) (s:St),Jwz X ds os E I s→Jwz X ds os E' I s
 | [],s,h=>hE s h
 | i :: I,s,h=>by
  simp only [Jwz,YSAt] at h ⊢;split
  ·rename_i o ho;rw [ho] at h;exact Kr (fun l hl=>Jzr hE I _ hl) h
  ·rename_i ho;rw [ho] at h;exact h
def Jt3 (X:Cx) (ds:List (Option Tmp)) (ops:List Oper) (k:Nat) (K:St→Prop):Ord→St→Prop
 | .leaf,s=>K s
 | .nil,_=>True
 | .bad,_=>False
 | .node i sub next,s=>(if i<k then YSAt X ds ops i (Jt3 X ds ops k K sub) s else lAt X ds ops i (Jt3 X ds ops k K sub) s)∧Jt3 X ds ops k K next s
theorem J18 {k:Nat} {K:St→Prop} {f:Nat} {listed:Array Bool} {s:St}:∀ (is:List Nat),Jt3 X (ops.toList.map (·.dst)) ops.toList k K (is.foldr (fun i acc=>.node i (P6 ops f (listed.setIfInBounds i true)) acc) .nil) s →
  ∀ i∈is,(if i<k then YSAt X (ops.toList.map (·.dst)) ops.toList i (Jt3 X (ops.toList.map (·.dst)) ops.toList k K (P6 ops f (listed.setIfInBounds i true))) s else lAt X (ops.toList.map (·.dst)) ops.toList i (Jt3 X (ops.toList.map (·.dst)) ops.toList k K (P6 ops f (listed.setIfInBounds i true))) s)
 | [],_,i,hi=>by cases hi
 | j :: is,h,i,hi=>by
  simp only [List.foldr_cons,Jt3] at h;rcases List.mem_cons.1 hi with rfl | hi
  ·exact h.1
  ·exact J18 is h.2 i hi
theorem Jt5 {k:Nat} {K:St→Prop}:∀ (f:Nat) (listed:Array Bool) (s:St),Jt3 X (ops.toList.map (·.dst)) ops.toList k K (P6 ops f listed) s→Ty X .any ops k K f listed s
 | 0,listed,s,h=>by
  unfold P6 at h;split at h
  ·rename_i h0;exact ⟨h0,h⟩
  ·exact h.elim
 | f+1,listed,s,h=>by
  unfold P6 at h;split at h
  ·rename_i h0;exact ⟨fun _=>h,fun i hi=>by rw [h0] at hi;cases hi⟩
  ·rename_i h0;refine ⟨fun h1=>absurd h1 h0,fun i hi o ho=>?_⟩;have:=J18 _ h i hi;refine ⟨fun hk=>?_,fun hk=>?_⟩
   ·rw [if_pos hk] at this;unfold YSAt at this;rw [Array.getElem?_toList,ho] at this;exact Kr (fun l hl=>Jt5 f _ _ hl) this
   ·rw [if_neg omg] at this;exact ⟨_,this,fun s' hs=>Jt5 f _ _ hs⟩
theorem J64 {id:Nat} {Q:Ex→St→Prop} {s:St} (k:Nat) (I:List Nat) (T:Ord) (f:Nat) (hm:X.P.follows .mixedOrders=true) (hf:f+I.length=ops.size) (hB:J9r .any ops k I (Array.replicate ops.size false)=true) (hT:P6 ops f (J0i I (Array.replicate ops.size false))=T)
  (h:Jwz X (ops.toList.map (·.dst)) ops.toList (Jt3 X (ops.toList.map (·.dst)) ops.toList k (Q .normal) T) I s):SWP X ro (.region id ops true) Q s:=fun Γ a w hG hr=>by
 have h':RR Γ s a { w with drawn:=w.drawn+1 }:=by
  obtain ⟨ms,hdef,β,Im,hx⟩:=hr;exact ⟨ms,hdef,β,Im,hx.grow (Grow.drew hx.fit.im)⟩
 refine wpIn_region_any hm (G0 (k:=k) (K:=Q .normal) hG (fun s _ _ h1 h2=>⟨s,h1,h2⟩) _ _ s a _ h' ?_);have hd:Down .any ops (Array.replicate ops.size false):=by
  intro i o ho hl;exfalso;have hi:=(Array.getElem?_eq_some_iff.1 ho).1;simp [Array.getD_eq_getD_getElem?,hi] at hl
 have:=Jyy (X:=X) (K:=Q .normal) (fuel:=f) I (Array.replicate ops.size false) s hB hd ?_
 ·rw [hf] at this;exact this
 ·subst hT;exact Jzr (fun s hs=>Jt5 f _ s hs) I s h
end
section
variable {X:Cx} {ds:List (Option Tmp)} {t:List L} {r:Regs} {E:St→Prop}
theorem Kfb {ops:List Oper}:Jwz X ds ops E [] ⟨t,r⟩=E ⟨t,r⟩:=(rfl)
theorem y_take {ops:List Oper} {i:Nat} {I:List Nat}:Jwz X ds ops E (i :: I) ⟨t,r⟩=YSAt X ds ops i (Jwz X ds ops E I) ⟨t,r⟩:=(rfl)
theorem y_at0 {o:Oper} {ops:List Oper}:YSAt X ds (o :: ops) 0 E ⟨t,r⟩=YS X ds ⟨t,r⟩ o (kput o.dst E ⟨t,r⟩):=(rfl)
theorem y_atS {o:Oper} {ops:List Oper} {i:Nat}:YSAt X ds (o :: ops) (i+1) E ⟨t,r⟩=YSAt X ds ops i E ⟨t,r⟩:=(rfl)
theorem y_leaf {ops:List Oper} {k:Nat}:Jt3 X ds ops k E .leaf ⟨t,r⟩=E ⟨t,r⟩:=(rfl)
theorem y_nil {ops:List Oper} {k:Nat}:Jt3 X ds ops k E .nil ⟨t,r⟩=True:=(rfl)
theorem y_node {ops:List Oper} {k i:Nat} {sub next:Ord}:Jt3 X ds ops k E (.node i sub next) ⟨t,r⟩=((if i<k then YSAt X ds ops i (Jt3 X ds ops k E sub) ⟨t,r⟩ else lAt X ds ops i (Jt3 X ds ops k E sub) ⟨t,r⟩)∧Jt3 X ds ops k E next ⟨t,r⟩):=(rfl)
attribute [go_sem] Kfb y_take y_at0 y_atS y_leaf y_nil y_node
end
def farL:L→Bool
 | .p _=>true
 | .eptr _=>true
 | _=>false
theorem Ke7 {P:Program} {regs regs':List (Nat×Reg)} {ρ:Operand→L} {op:Op} {l:L} (hf:∀ x∈op.operands.toList,farL (ρ x)=true) (h:lqv P regs ρ op l):lqv P regs' ρ op l:=by
 cases op with
 | lookup t x ix ok =>
  have hx:=hf x (by simp [Op.operands]);have e:Tz regs (ρ x)=Tz regs' (ρ x):=by
   unfold Tz;cases hρ:ρ x <;> rw [hρ] at hx <;> simp [farL] at hx <;> (try rfl)
   rename_i a;cases a <;> rfl
  simp only [lqv,Yc] at h ⊢;rw [← e];exact h
 | call c =>
  obtain ⟨callee,args,ts⟩:=c;cases callee with
  | builtin b =>
   cases b with
   | cap =>
    simp only [lqv] at h ⊢;split at h
    ·rename_i x t hargs hts;have hx:=hf x (by simp [Op.operands,Call.operands,hargs]);revert h;cases hρ:ρ x <;> rw [hρ] at hx <;> simp [farL] at hx
     ·rename_i a;cases a <;> exact id
     ·exact id
    ·exact h
   | _=>exact h
  | _=>exact h
 | _=>exact h
theorem lq_far {P:Program} {regs regs':List (Nat×Reg)} {ρ:Operand→L} {op:Op} {K:L→Prop} (hf:∀ x∈op.operands.toList,farL (ρ x)=true) (h:lq P regs ρ op K):lq P regs' ρ op K:=by
 have ptr:∀ {x:L} {d i j:Nat},farL x=true→x=.ptr d i j→False:=by intro x d i j h e;subst e;cases h
 unfold lq at h ⊢;split at h
 case h_8 =>
  rename_i a;have hx:=hf a (by simp [Op.operands]);revert h;unfold Jc;generalize B2 P _=b;rcases b with _ | _ | _ <;> cases hρ:ρ a <;> rw [hρ] at hx <;> simp [farL] at hx <;> exact id
 case h_11 =>
  rename_i x y;have hx:=hf x (by simp [Op.operands]);revert h;unfold Dg;generalize ρ y=iy;cases hρ:ρ x <;> rw [hρ] at hx <;> simp [farL] at hx
  ·rename_i a;cases iy with
   | p b=>cases a <;> cases b <;> exact id
   | _=>cases a <;> exact id
  ·cases iy with
   | p b=>cases b <;> exact id
   | _=>exact id
 case h_13 t x lo hi mx =>
  have hx:=hf x (by simp [Op.operands]);revert h;unfold G2;generalize P.underlying t=u;cases hρ:ρ x <;> rw [hρ] at hx <;> simp [farL] at hx
  ·rename_i a;cases u with
   | none=>exact id
   | some u=>cases u <;> cases a <;> exact id
  ·cases u with
   | none=>exact id
   | some u=>cases u <;> exact id
 all_goals first
  | exact h
  | skip
 obtain ⟨l,h1,h2⟩:=h;exact ⟨l,Ke7 hf h1,h2⟩
section
variable {X:Cx} {ro:Option Nat} {ops:Array Oper}
def Jt4 (o:Oper):Bool:=o.guard.isNone && match o.op with
 | .move _=>true
 | .indexAddr ..=>true
 | .fieldAddr ..=>true
 | .load ..=>true
 | .binOp ..=>true
 | _=>false
def Jva (o:Oper):Bool:=o.guard.isNone && match o.op,o.dst with
 | .alloc _,some _=>true
 | _,_=>false
def Jvs (o:Oper):Bool:=o.guard.isNone && match o.op,o.dst with
 | .store ..,none=>true
 | _,_=>false
def farOps (s:St) (o:Oper):Prop:=∀ x∈o.op.operands.toList,farL (s.get x)=true
theorem Kby {ds:List (Option Tmp)} {s:St} {o:Oper} {K:L→Prop} (h:Jt4 o=true):YS X ds s o K=lq X.P s.regs s.get o.op K:=by
 obtain ⟨dst,op,ty,ps,af,g⟩:=o;cases g with
 | some g=>simp [Jt4] at h
 | none =>
  unfold YS lqc;cases op <;> first | rfl | (simp [Jt4] at h)
theorem J5l {s:St} {dst:Option Tmp} {v:L}:(s.put dst v).regs=s.regs:=by cases dst <;> rfl
theorem J1o {s:St} {dst:Option Tmp} {v:L} {R:Regs}:({ (s.put dst v) with regs:=R }:St)=({ s with regs:=R }:St).put dst v:=by cases dst <;> rfl
def lTakeA (X:Cx) (ds:List (Option Tmp)) (ops:List Oper) (E:St→Prop):List Nat→St→Prop
 | [],s=>E s
 | i :: I,s=>match ops[i]? with
  | some o=>farOps s o∧YS X ds s o fun l=>farL l=true∧lTakeA X ds ops E I (s.put o.dst l)
  | none=>False
def takeAB (ops:Array Oper) (k:Nat):List Nat→Array Bool→Bool
 | [],_=>true
 | i :: I,listed=>(Region.ready .any ops listed).contains i && (Region.free .any ops listed i && (decide (i<k) && ((match ops[i]? with | some o=>Jt4 o | none=>false) && ((List.range ops.size).all (fun j=>decide (j<k) || (ancB .any ops ops.size i j || match ops[j]? with | some o=>Jva o || Jvs o | none=>false)) && takeAB ops k I (listed.setIfInBounds i true)))))
end
section
variable {X:Cx} {ds:List (Option Tmp)} {t:List L} {r:Regs} {E:St→Prop} {dst:Option Tmp} {ty:TypeId} {ps:String} {af:Array Edge} {g:Option (Nat×Bool)}
def kfar (dst:Option Tmp) (C:St→Prop) (s:St) (l:L):Prop:=farL l=true∧C (s.put dst l)
theorem v_fp {x:PV}:(farL (.p x)=true)=True:=by simp [farL]
theorem v_fe {cs:List PV}:(farL (.eptr cs)=true)=True:=by simp [farL]
def J95 (X:Cx) (args:List L) (C:L→Prop) (l:L):Prop:=match l with
 | .fn g []=>Bi X g args C
 | .p (.clo g ps)=>Bi X g (args ++ [.eptr ps]) C
 | _=>False
theorem Ke1 {n:Tmp} {args:Array Operand} {ats:Array TypeId} {C:L→Prop}:lqc X ⟨t,r⟩ ⟨dst,.call { callee:=.value (.tmp n),args:=args,argTypes:=ats },ty,ps,af,g⟩ C=J95 X (args.toList.map (St.mk t r).get) C ((St.mk t r).get (.tmp n)):=(rfl)
theorem Ke5 {f:FuncId} {args:List L} {C:L→Prop}:J95 X args C (.fn f [])=Bi X f args C:=(rfl)
attribute [go_sem] Ke1 Ke5 v_fp v_fe
end
theorem Al.perm {X:Cx} {f:FuncId} {args:List L} {rs rs':Regs} {Post:L→Regs→Prop} (hp:rs'.Perm rs) (h:Al X f args rs Post):Al X f args rs' Post:=by
 refine ⟨h.1,fun β Im w vs hg hf=>?_⟩;have hmi:∀ x,x∈rs ↔ x∈rs':=fun x=>hp.symm.mem_iff
 have hf':Fit β w Im ⟨args,rs⟩ ⟨vs⟩:={ size:=hf.size,tmps:=hf.tmps,im:=hf.im,regs:=fun d r hd=>hf.regs d r ((hmi _).1 hd),nodup:=((hp.map _).nodup_iff).1 hf.nodup,live:=fun d r loc hd hl=>hf.live d r loc ((hmi _).1 hd) hl,apart:=fun d r d' r' l1 l2 hd hd' hne h1 h2=>hf.apart d r d' r' l1 l2 ((hmi _).1 hd) ((hmi _).1 hd') hne h1 h2 }
 refine (h.2 β Im w vs hg hf').mono fun e w' ⟨v,m,q,β',Im',he,hP,hr,hc⟩=>⟨v,m,q,β',Im',he,hP,hr,?_⟩
 exact { hc with
  block:=fun k hk hno=>hc.block k hk fun d r loc hd hl=>hno d r loc ((hmi _).1 hd) hl
  imnew:=fun b hb=>by
   rcases hc.imnew b hb with h | h | ⟨d,r,loc,h1,h2⟩
   ·exact .inl h
   ·exact .inr (.inl h)
   ·exact .inr (.inr ⟨d,r,loc,(hmi _).1 h1,h2⟩)
  keys:=fun d r hd=>by
   rcases hc.keys d r hd with h | ⟨r0,h⟩
   ·exact .inl h
   ·exact .inr ⟨r0,(hmi _).1 h⟩
  regnew:=fun d r loc hd hl=>by
   rcases hc.regnew d r loc hd hl with h | ⟨d1,r1,loc1,h1,h2⟩
   ·exact .inl h
   ·exact .inr ⟨d1,r1,loc1,(hmi _).1 h1,h2⟩ }
attribute [local irreducible] Al Bi SWP
theorem nc_num (m m':Int) (nm nm' s s':List UInt8) (g g':Bool) (e e':Int) (h:Yz s g e) (h':Yz s' g' e'):Det cx 198 [.p (.agg [.int .i64 3,.int .i64 m,.str nm,.str s,.bool g,.int .i64 e]),.p (.agg [.int .i64 3,.int .i64 m',.str nm',.str s',.bool g',.int .i64 e'])] [] (.p (.int .i64 (Jzz (ndN s g e) (ndN s' g' e')))) []:=by
 have:=Kcy ⟨3,m,nm,s,g,e⟩ ⟨3,m',nm',s',g',e'⟩ (J6r h) (J6r h');exact this
theorem J9q {a b:Int} (h:¬ a=b):¬ cmpI a b=0:=by
 unfold cmpI;split
 ·decide
 ·split
  ·decide
  ·omega
theorem Kcu {k:Int} {s:List UInt8} {g:Bool} {e:Int} {kids:Forest} (h:okT (.mk k s g e kids)) {p:KT} (hp:p∈kids.list):okT p.2:=Jdo.1 (Lu.1 h).2.2 p hp
theorem d_Cmp (n:Nat) (t u:Tree) (hn:(t.enc []).length≤n) (ht:okT t) (hu:okT u) (hs:(t.enc []).length≤1000000) (hs':(u.enc []).length≤1000000):Det cx 172 [.p (.sl (valL (t.enc []))),.p (.sl (valL (u.enc [])))] [] (.p (.int .i64 (cmpT t u))) []:=by
 induction n generalizing t u with
 | zero=>have:=Et t [];omega
 | succ n ih =>
 cases t with
 | mk k s g e kids =>
 cases u with
 | mk k' s' g' e' kids' =>
 have hok:=Lu.1 ht;have hok':=Lu.1 hu;rw [A6,List.length_cons] at hn hs hs';have hg:=Cc [] k s g e kids;have hg':=Cc [] k' s' g' e' kids';have hll:=Jq4 kids;have hll':=Jq4 kids';have hkl:=Jq6 kids;have hkl':=Jq6 kids';have hc:∀ p∈kids.list,∀ q∈kids'.list,Det cx 172 [.p (.sl (valL (p.2.enc []))),.p (.sl (valL (q.2.enc [])))] [] (.p (.int .i64 (cmp2 p q))) []:=fun p hp q hq=>ih p.2 q.2 (by have:=Jd7 hp;omega) (Kcu ht hp) (Kcu hu hq) (by have:=Jd7 hp;omega) (by have:=Jd7 hq;omega)
 have hCF:=J2o kids.list kids'.list omg omg hc;by_cases hkk:k=k'
 ·subst hkk;by_cases h3:k=3
  ·subst h3;(refine bgo Tryz.func172 ?_;simp only [go_sem,simprocAttr]);(repeat' (first | (apply iteI <;> intro h)|((first | (refine Jqp ?_)|(refine Jqg (Jxd _ _) ?_)|(refine Jqg (nc_num _ _ _ _ _ _ _ _ _ _ (J41 hok.1 rfl) (J41 hok'.1 rfl)) ?_));simp only [go_sem,simprocAttr,hg,hg']) | fail))
   all_goals first
    | exact absurd (Ju0 _) (by assumption)
    | (rw [Jvi,if_pos rfl,if_pos rfl];done)
  ·by_cases h4:k=4
   ·subst h4;(refine bgo Tryz.func172 ?_;simp only [go_sem,simprocAttr]);(repeat' (first | (apply iteI <;> intro h)|((first | (refine Jqp ?_)|(refine Jqg (Jxd _ _) ?_)|(refine Jqg (J8x _ _) ?_));simp only [go_sem,simprocAttr,hg,hg']) | fail))
    all_goals first
     | exact absurd (Ju0 _) (by assumption)
     | (rw [Jvi,if_pos rfl,if_neg de,if_pos rfl];done)
   ·by_cases h6:k=6
    ·subst h6;(refine bgo Tryz.func172 ?_;simp only [go_sem,simprocAttr]);(repeat' (first | (apply iteI <;> intro h)|((first | (refine Jqp ?_)|(refine Jqg (Jxd _ _) ?_)|(refine Jqa (J9w [] s g e kids omg) ?_)|(refine Jqa (J9w [] s' g' e' kids' omg) ?_)|(refine Jqa (J1n _ _ omg omg) ?_)|(refine Jqa (Px [] 6 s g e kids omg) ?_)|(refine Jqa (Px [] 6 s' g' e' kids' omg) ?_)|(refine Jqa (hCF) ?_));simp only [go_sem,simprocAttr,hg,hg']) | fail))
     all_goals first
      | exact absurd (Ju0 _) (by assumption)
      | (rw [Jvi,if_pos rfl,if_neg de,if_neg de,if_pos rfl,if_neg (by assumption)];done)
      | (rw [Jvi,if_pos rfl,if_neg de,if_neg de,if_pos rfl,if_pos (Decidable.not_not.1 (by assumption)),J06];done)
    ·by_cases h5:k=5
     ·subst h5;(refine bgo Tryz.func172 ?_;simp only [go_sem,simprocAttr]);(repeat' (first | (apply iteI <;> intro h)|((first | (refine Jqp ?_)|(refine Jqg (Jxd _ _) ?_)|(refine Jqa (Px [] 5 s g e kids omg) ?_)|(refine Jqa (Px [] 5 s' g' e' kids' omg) ?_)|(refine Jqa (hCF) ?_));simp only [go_sem,simprocAttr,hg,hg']) | fail))
      all_goals first
       | exact absurd (Ju0 _) (by assumption)
       | (rw [Jvi,if_pos rfl,if_neg de,if_neg de,if_neg de,if_pos rfl,J06];done)
     ·(refine bgo Tryz.func172 ?_;simp only [go_sem,simprocAttr]);(repeat' (first | (apply iteI <;> intro h)|((first | (refine Jqp ?_)|(refine Jqg (Jxd _ _) ?_));simp only [go_sem,simprocAttr,hg,hg'])|(exfalso;omega)))
      all_goals first
       | exact absurd (Ju0 _) (by assumption)
       | (rw [Jvi,if_pos rfl,if_neg h3,if_neg h4,if_neg h6,if_neg h5];done)
 ·(refine bgo Tryz.func172 ?_;simp only [go_sem,simprocAttr]);(repeat' (first | (apply iteI <;> intro h)|((first | (refine Jqp ?_)|(refine Jqg (Jxd _ _) ?_));simp only [go_sem,simprocAttr,hg,hg']) | fail))
  all_goals first
   | (rw [Jvi,if_neg hkk];done)
   | exact absurd (Decidable.not_not.1 (by assumption)) (J9q hkk)
   | exact absurd (by assumption) (J9q hkk)
def treeL (l:List Tree):List (List PV):=l.map fun t=>[.sl (valL (t.enc []))]
def Kde:List Tree→Bool
 | a :: b :: l=>decide (0≤cmpT b a) && Kde (b :: l)
 | _=>true
end Go.LX
namespace Go.LX
open Go
def ndT (n:Node):Tree:=.mk n.kind n.s n.neg n.e .nil
def rootN:Tree→Node
 | .mk k s g e kids=>⟨k,kids.len,[],s,g,e⟩
def leafB:Tree→Bool
 | .mk _ _ _ _ .nil=>true
 | .mk _ _ _ _ (.cons _ _ _)=>false
def J9v (n c:Int):Bool :=
 if n=0 then decide (c=0) else if n=1 then decide (c≠0) else if n=2 then decide (c<0) else if n=3 then decide (c≤0) else if n=4 then decide (0<c) else decide (0≤c)
def Juu (a:Int×Node) (x:Node):Bool:=J9v a.1 (cmpT (ndT x) (ndT a.2))
def Jr0 (mask kind:Int):Bool:=decide (mask.toNat / 2 ^ kind.toNat % 2=1)
def Jso (mask:Int) (l:List (Int×Node)) (x:Node):Bool:=decide (Jqr x) && (Jr0 mask x.kind && l.all fun a=>Juu a x)
def keyV (s:List UInt8) (v:Tree):List Node:=match getT (Je s).1 v with
 | .ok u=>u.enc []
 | .error _=>[]
def keyT (s:List UInt8) (v:Tree):Tree:=match getT (Je s).1 v with
 | .ok u=>u
 | .error _=>.mk 0 [] false 0 .nil
def J6a (ps:List (Tree→Bool)):Tree→Bool:=match ps with
 | []=>fun _=>true
 | p :: _=>p
def partP (kids:List KT) (nm:List UInt8) (p:Tree→Bool):Bool:=match Ch nm kids with
 | some u=>p u
 | none=>false
def objS (kids:List KT):List RKT→List (Tree→Bool)→Bool
 | r :: rows,p :: ps=>partP kids r.1 p && objS kids rows ps
 | _,_=>true
def tupS:List (Tree→Bool)→List KT→Bool
 | [],[]=>true
 | p :: ps,q :: l=>p q.2 && tupS ps l
 | [],_ :: _=>false
 | _ :: _,[]=>false
def sKey:List UInt8:=[107,101,121]
def sVal:List UInt8:=[118,97,108,117,101]
def entK:Tree→Option (List UInt8×Tree)
 | .mk k _ _ _ kids=>if k=6∧kids.len=2 then (match Ch sKey kids.list,Ch sVal kids.list with
  | some (.mk k' s' _ _ _),some x=>if k'=4 then some (s',x) else none
  | _,_=>none) else none
def Jux (last:Option (List UInt8)) (key:List UInt8):Bool:=match last with
 | none=>true
 | some l=>Op.bytesLess l key
def entS (P:Tree→Bool):Option (List UInt8)→List KT→Bool
 | _,[]=>true
 | last,q :: l=>match entK q.2 with
  | none=>false
  | some (key,x)=>Jux last key && (P x && entS P (some key) l)
def sameT (a b:Tree):Bool:=decide (a.enc []=b.enc [])
def aheadT (last:Option Tree) (key:Tree):Bool:=match last with
 | none=>true
 | some l=>decide (cmpT l key<0)
def Kdq (P:Tree→Bool) (q:KT):Bool:=decide (q.2.kind=5) && (decide (q.2.kids.len≠0) && q.2.kids.list.all fun x=>P x.2)
def J5x (s:List UInt8) (l:List KT):List Tree:=l.map fun q=>keyT s q.2
def Kcv (l:List Tree):Tree:=l.headD (.mk 0 [] false 0 .nil)
def Kcr (P:Tree→Bool) (s:List UInt8):Option Tree→List KT→Bool
 | _,[]=>true
 | last,q :: l=>Kdq P q && (((J5x s q.2.kids.list).all fun k=>sameT k (Kcv (J5x s q.2.kids.list))) && (aheadT last (Kcv (J5x s q.2.kids.list)) && Kcr P s (some (Kcv (J5x s q.2.kids.list))) l))
def allP (P:Tree→Bool) (l:List KT):Bool:=l.all fun q=>P q.2
def inK (k:Int) (s:List UInt8) (n:Int) (rows:List RKT) (ps:List (Tree→Bool)) (v:Tree):Bool :=
 if k=0 then true
 else if k=1 then leafB v && Jso n (Jqf rows) (rootN v)
 else if k=2 then decide (v.kind=6) && ((decide (n≠0) || decide (v.kids.len=rows.length)) && objS v.kids.list rows ps)
 else if k=3 then decide (v.kind=6) && allP (J6a ps) v.kids.list
 else decide (v.kind=5) && (
  if k=4 then tupS ps v.kids.list
  else if k=6 then entS (J6a ps) none v.kids.list
  else if k=8 then Kcr (J6a ps) s none v.kids.list
  else if k=7 then allP (J6a ps) v.kids.list && Kde (J5x s v.kids.list)
  else allP (J6a ps) v.kids.list)
def idxF (b:Nat→Bool):Nat→Nat→Int
 | 0,_=>-1
 | k+1,i=>if b i=true then idxF b k (i+1) else i
def allF (b:Nat→Bool):Nat→Nat→Bool
 | 0,_=>true
 | k+1,i=>b i && allF b k (i+1)
theorem J05 {b:Nat→Bool}:∀ {k i:Nat},decide (0≤idxF b k i) = !allF b k i
 | 0,i=>rfl
 | k+1,i=>by
  rw [idxF,allF];cases b i
  ·simp
  ·simp only [if_true,Bool.true_and];exact J05
end Go.LX
namespace Go.LX
open Go Go.Proofs
end Go.LX
namespace Go.LX
open Go Go.RowKit Go.Proofs
attribute [local irreducible] Al SWP Bi
end Go.LX
