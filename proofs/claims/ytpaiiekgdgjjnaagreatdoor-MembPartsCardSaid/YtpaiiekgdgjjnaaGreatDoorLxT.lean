/- Types: their parts. -/
import Derived.Test.YtpaiiekgdgjjnaaGreatDoorLxS
import Derived.Test.YtpaiiekgdgjjnaaGreatDoorLxM
import Derived.Test.YtpaiiekgdgjjnaaGreatDoorLxK
import Derived.Shelf.Strings.FuncGrows
import Derived.Lib.TrimUEq
import Derived.Lib.TrimAscii
import Derived.Lib.ItoaNum
import Derived.Lib.Repeat
import Derived.Lib.Bytealg
import Derived.Shelf.Strings.Builder1
import Derived.Shelf.Strings.Trim
import Derived.Shelf.Small.Utf8
import Derived.Shelf.Small.Bits
import Derived.Shelf.Small.Strs
import Derived.Shelf.Small.Wraps
import Derived.Shelf.Strings.BuilderF
import Derived.Shelf.Strconv.Atoi
import Derived.Shelf.Strconv.Itoa0
import Derived.Shelf.Strconv.Itoa1
import Derived.Shelf.LaysM
import Derived.Shelf.Strconv.Itoa2
import Derived.Shelf.Strconv.Itoa3
import Derived.Shelf.Strconv.Itoa4
import Derived.Shelf.Strconv.AtoiErrFast
import Derived.Shelf.Strconv.ParseIntEmpty
import Derived.Shelf.Strconv.AtoiFail
import Derived.Shelf.Strconv.Clone
import Derived.Shelf.Strconv.SyntaxError
import Derived.Shelf.LaysC
import Derived.Shelf.Strconv.ToError
import Derived.Shelf.Strconv.Lower
import Derived.Shelf.Strconv.ParseUint10
import Derived.Shelf.Strconv.ParseUint10Empty
import Derived.Shelf.Strconv.ParseUint10Any
import Derived.Shelf.Strconv.ParseInt10
import Derived.Shelf.Strconv.AtoiLong
import Derived.Shelf.Strconv.AtoiInnerAll
import Derived.Shelf.Strconv.RangeError
import Derived.Shelf.Strconv.ToErrorRange
import Derived.Shelf.Strconv.AtoiAll
import Derived.Shelf.Strconv.ErrVarAll
import Derived.Shelf.Strconv.ParseUintEmpty
import Derived.Shelf.Strings.Search1
import Derived.Shelf.GgClosure.StringsIndexFunc
import Derived.Shelf.GgClosure.StringsTrimFunc
import Derived.Shelf.Strings.Prefix
import Derived.Shelf.Unicode.Decode
import Derived.Shelf.Strings.Runes
import Derived.Shelf.Strings.IndexAny
import Derived.Shelf.Strings.AsciiSet
import Derived.Shelf.Strings.IndexAnyAll
import Derived.Shelf.Unicode.DecodeSlow
import Derived.Shelf.Unicode.DecodeAny
import Derived.Shelf.Unicode.DecodeLast
import Derived.Ground.Names2Prog
import Derived.Shelf.Slices.ReverseS
import Derived.Shelf.Slices.SearchI
import Derived.Shelf.Slices.Cells
import Derived.Ground.SlgnProg
import Derived.Shelf.SlicesE.Reverse
import Derived.Test.YtpaiiekgdgjjnaaGreatDoorProg
import Derived.Test.YtpaiiekgdgjjnaaGreatDoorLxR
set_option linter.unusedSimpArgs false
set_option linter.unusedVariables false
set_option linter.unusedSectionVars false
set_option linter.unnecessarySimpa false
set_option maxRecDepth 100000
set_option maxHeartbeats 2000000
namespace Go.LX
open Go Go.RowKit Go.Proofs
attribute [local irreducible] Al SWP Bi
theorem J07 (v:List YRow) (i:Nat) (nm:List UInt8) (t:RT) (rest:List YRow) (hv:v.length≤1000000) (h:v.drop i=t.enc nm ++ rest):Det cx 200 [.p (.sl (rowL v)),.p (.int .i64 i)] [] (.p (.int .i64 (i+(t.enc nm).length:Nat))) []:=by
 (refine Jqa false [] Tryz.func200 ?_;refine Ae hm _ _ _ ?_;simp only [Tryz.ntmps200,Tryz.results200,go_sem,simprocAttr])
 have hp:=Jr9 t nm
 have hb:=Ju1 h (fun e=>by have e2:(t.enc nm ++ rest).length=0:=(by rw [e];rfl);rw [List.length_append] at e2;omega)
 rw [List.length_append] at hb
 refine SWP.loop (fun x:Nat×Nat×RF=>⟨Ba 19 [(0,.p (.sl (rowL v))),(1,.p (.int .i64 x.1)),(5,.p (.int .i64 x.2.1))],[]⟩) (fun x=>x.2.1=x.2.2.len∧v.drop x.1=x.2.2.enc ++ rest∧x.1+x.2.2.enc.length=i+(t.enc nm).length) (fun x=>x.2.2.enc.length) (i,1,.cons nm t .nil) Jqb ⟨rfl,by simp [Jqf,Jqt,h],by simp [Jqf,Jqt]⟩ ?_
 rintro ⟨j,left,F⟩ ⟨h0,h1,h2⟩
 simp only at h0 h1 h2
 match F,h0,h1,h2 with
 | .nil,h0,h1,h2 =>
  rw [Jqt] at h2
  simp only [RF.len] at h0
  subst h0
  (refine Ae hm _ _ _ ?_;simp only [go_sem,simprocAttr])
  skip
  simp only [List.length_nil] at h2
  omega
 | .cons nm' (.mk k s g e kids) r,h0,h1,h2 =>
  rw [Jrq] at h0
  rw [Jqf,Jqk] at h1 h2
  have hg:=Jru h1
  rw [Jqy] at hg
  simp only [List.length_cons,List.length_append] at h2
  have hl1:=RF.len_le kids
  have hl2:=RF.len_le r
  have w0:IntKind.i64.wrap ((kids.len:Int) - 1)=(kids.len:Int) - 1:=Aa (by omega) (by omega)
  have w1:IntKind.i64.wrap ((left:Int)+((kids.len:Int) - 1))=((r.len+kids.len:Nat):Int):=by rw [Aa (by omega) (by omega)];omega
  (refine Ae hm _ _ _ ?_;simp only [go_sem,simprocAttr,wj1 (i:=j) (by omega),hg,w0,w1])
  (repeat' (first | (refine iteI (fun h=>?_) (fun h=>?_))|(exfalso;omega)))
  ·exact ⟨(j+1,r.len+kids.len,kids.app r),⟨by simp only [RF.len_app];omega,by
    simp only [RF.enc_app]
    rw [← List.drop_drop,h1];simp,by simp only [RF.enc_app,List.length_append];omega⟩,by simp only [RF.enc_app,Jqf,Jqk,List.length_append,List.length_cons];omega,Jqb⟩
theorem J3p (c:List PV) (cs:List (List PV)) (h6:∀ q∈c :: cs,q.length=11) (hl:cs.length≤1000000):Det cx 124 [.p (.sl (c :: cs))] [] (.own 900 0 (cs.length+1)) [(900,.row 31 11 (c :: cs))]:=by
 (refine Jqa true [(7,900)] Tryz.func124 ?_;refine Ae hm _ _ _ ?_;simp only [Tryz.ntmps124,Tryz.results124,go_sem,simprocAttr])
 (repeat' (first | (refine Jsx ?_) | fail))
 omega
theorem J5j (v:List YRow):Det cx 123 [.p (.sl (rowL v))] [] (.fn 199 [900]) [(900,.var 23 [.p (.sl (rowL v))])]:=by
 (refine Jqa true [(1,900)] Tryz.func123 ?_;refine Ae hm _ _ _ ?_;simp only [Tryz.ntmps123,Tryz.results123,go_sem,simprocAttr])
def Jr8:Nat→RF→List (List PV)
 | _,.nil=>[]
 | i,.cons nm t r=>[.int .i64 i,.int .i64 (i+(t.enc nm).length:Nat)] :: Jr8 (i+(t.enc nm).length) r
theorem Jt4:∀ (i:Nat) (f:RF),(Jr8 i f).length=f.len
 | _,.nil=>rfl
 | i,.cons nm t r=>by rw [Jr8,List.length_cons,Jt4 _ r,Jrq]
theorem Jt7:∀ {i:Nat} {f:RF} {k:Nat} {x:List PV},(Jr8 i f)[k]? = some x→∃ (j:Nat) (p:RKT) (b:List YRow),f.list[k]? = some p∧f.enc.drop j=p.2.enc p.1 ++ b∧x=[.int .i64 (i+j:Nat),.int .i64 (i+j+(p.2.enc p.1).length:Nat)]
 | i,.nil,k,x,h=>by simp [Jr8] at h
 | i,.cons nm t r,0,x,h=>by
  simp only [Jr8,List.getElem?_cons_zero,Option.some.injEq] at h
  exact ⟨0,(nm,t),r.enc,rfl,by rw [List.drop_zero,Jqf],by rw [← h];rfl⟩
 | i,.cons nm t r,k+1,x,h=>by
  simp only [Jr8,List.getElem?_cons_succ] at h
  obtain ⟨j,p,b,h1,h2,h3⟩:=Jt7 h
  refine ⟨(t.enc nm).length+j,p,b,h1,?_,?_⟩
  ·rw [Jqf,← List.drop_drop,List.drop_left,h2]
  ·rw [h3];simp only [Nat.add_assoc]
theorem J2y {i:Nat} {f:RF} {x:List PV} (h:x∈Jr8 i f):x.length=2:=by
 obtain ⟨k,hk⟩:=List.getElem?_of_mem h
 obtain ⟨j,p,b,_,_,rfl⟩:=Jt7 hk
 rfl
theorem J5i (nm:List UInt8) (kd:Int) (s:List UInt8) (g:Int) (e:Node) (kids:RF) (hv:kids.enc.length≤999999):Tb cx 199 [.eptr [.sl (rowL ((RT.mk kd s g e kids).enc nm))]] (if kd=1 then [] else Jr8 1 kids):=by
 have hl:=RF.len_le kids
 generalize hvv:(RT.mk kd s g e kids).enc nm=v
 have h0:v.drop 0=⟨kd,kids.len,nm,s,g,e⟩ :: kids.enc:=by rw [← hvv,Jqk];rfl
 have hg0:=Jru h0
 rw [Jqy] at hg0
 have hvl:v.length=kids.enc.length+1:=by rw [← hvv,Jqk];rfl
 by_cases hk1:kd=1
 ·subst hk1
  rw [if_pos rfl]
  (refine Tb.of_code (X:=cx) Tryz.func199 (by kernel_rfl) rfl (by kernel_rfl) (by simp only [List.length_cons,List.length_nil,Tryz.ntmps199];decide) fun l=>?_;refine N9 _ _ _ _ ?_;simp only [Tryz.ntmps199,go_sem,simprocAttr,hg0])
  refine JWP.loop (fun x:Nat×Nat×RF=>(some 0,⟨Ba 28 [(0,.yld l),(1,.eptr [.sl (rowL v)]),(3,.p (.int .i64 x.2.1)),(8,.p (.int .i64 kids.len)),(9,.p (.int .i64 x.1))],[]⟩)) (fun x=>x.1+x.2.2.len=kids.len∧v.drop x.2.1=x.2.2.enc∧x.2.1+x.2.2.enc.length=v.length) (fun x=>x.2.2.enc.length) (0,1,kids) rfl Jqb ⟨by simp,by rw [← hvv,Jqk];rfl,by simp only;omega⟩ ?_
  rintro ⟨k,j,F⟩ ⟨h1,h2,h3⟩
  simp only at h1 h2 h3 ⊢
  match F,h1,h2,h3 with
  | .nil,h1,h2,h3 =>
   simp only [RF.len] at h1
   (refine N9 _ _ _ _ ?_;simp only [go_sem,simprocAttr])
   (repeat' (first | (refine iteI (fun h=>?_) (fun h=>?_))|(exfalso;omega)))
   simp
  | .cons nm' t' r,h1,h2,h3 =>
   rw [Jrq] at h1
   rw [Jqf] at h2 h3
   rw [List.length_append] at h3
   have hp:=Jr9 t' nm'
   (refine N9 _ _ _ _ ?_;simp only [go_sem,simprocAttr,wj1 (i:=k) (by omega)])
   (repeat' (first | (refine iteI (fun h=>?_) (fun h=>?_))|((refine Det.use (J07 v j nm' t' r.enc (by omega) h2) ?_);simp only [go_sem,simprocAttr,hg0,wj1 (i:=k) (by omega)])|(exfalso;omega)))
   ·exact ⟨(k+1,j+(t'.enc nm').length,r),⟨by simp only;omega,by simp only;rw [← List.drop_drop,h2,List.drop_left],by simp only;omega⟩,by simp only [Jqf,List.length_append];omega,Jqb⟩
   all_goals omega
 ·rw [if_neg hk1]
  have hk2:(kd=1)=False:=eq_false hk1
  (refine Tb.of_code (X:=cx) Tryz.func199 (by kernel_rfl) rfl (by kernel_rfl) (by simp only [List.length_cons,List.length_nil,Tryz.ntmps199];decide) fun l=>?_;refine N9 _ _ _ _ ?_;simp only [Tryz.ntmps199,go_sem,simprocAttr,hg0,hk2])
  refine JWP.loop (fun x:Nat×Nat×RF=>(some x.1,⟨Ba 28 [(0,.yld l),(1,.eptr [.sl (rowL v)]),(3,.p (.int .i64 x.2.1)),(8,.p (.int .i64 kids.len)),(9,.p (.int .i64 x.1))],[]⟩)) (fun x=>x.1+x.2.2.len=kids.len∧v.drop x.2.1=x.2.2.enc∧x.2.1+x.2.2.enc.length=v.length∧(Jr8 1 kids).drop x.1=Jr8 x.2.1 x.2.2) (fun x=>x.2.2.enc.length) (0,1,kids) rfl Jqb ⟨by simp,by rw [← hvv,Jqk];rfl,by simp only;omega,rfl⟩ ?_
  rintro ⟨k,j,F⟩ ⟨h1,h2,h3,h4⟩
  simp only at h1 h2 h3 h4 ⊢
  match F,h1,h2,h3,h4 with
  | .nil,h1,h2,h3,h4 =>
   simp only [RF.len] at h1
   (refine N9 _ _ _ _ ?_;simp only [go_sem,simprocAttr])
   (repeat' (first | (refine iteI (fun h=>?_) (fun h=>?_))|(exfalso;omega)))
   rw [Jt4]
   exact .inl (by congr 1)
  | .cons nm' t' r,h1,h2,h3,h4 =>
   rw [Jrq] at h1
   rw [Jqf] at h2 h3
   rw [List.length_append] at h3
   have hp:=Jr9 t' nm'
   (refine N9 _ _ _ _ ?_;simp only [go_sem,simprocAttr,wj1 (i:=k) (by omega)])
   (repeat' (first | (refine iteI (fun h=>?_) (fun h=>?_))|((refine Det.use (J07 v j nm' t' r.enc (by omega) h2) ?_);simp only [go_sem,simprocAttr,hg0,hk2,wj1 (i:=k) (by omega)])|(exfalso;omega)))
   ·refine ⟨?_,⟨(k+1,j+(t'.enc nm').length,r),⟨by simp only;omega,by simp only;rw [← List.drop_drop,h2,List.drop_left],by simp only;omega,by simp only;rw [← List.drop_drop,h4];rfl⟩,by simp only [Jqf,List.length_append];omega,rfl,Jqb⟩,.inr trivial⟩
    have:=congrArg (·[0]?) h4
    simp only [List.getElem?_drop,Nat.add_zero] at this
    rw [this]
    rfl
   all_goals omega
def Jqo (l:List RKT):List (List PV):=l.map fun p=>[.sl (rowL (p.2.enc []))]
@[simp] theorem tpartL_nil:Jqo []=[]:=rfl
theorem Jxa {l:List RKT} {k:Nat} {p:List UInt8×RT} (h:l[k]? = some p):Jqo (l.take (k+1))=Jqo (l.take k) ++ [[.sl (rowL (p.2.enc []))]]:=by
 rw [List.take_add_one,h]
 simp [Jqo]
theorem Jq9 (l:List RKT):(Jqo l).length=l.length:=by simp [Jqo]
theorem Jye {l:List RKT} {i:Nat} {p:RKT} (h:l[i]? = some p):(Jqo l)[i]? = some [.sl (rowL (p.2.enc []))]:=by simp [Jqo,h]
theorem Jzg (nm:List UInt8) (kd:Int) (s:List UInt8) (g:Int) (e:Node) (kids:RF) (hv:kids.enc.length≤999999) (hk1:kd≠1):Det cx 49 [.p (.sl (rowL ((RT.mk kd s g e kids).enc nm)))] [] (.p (.sl (Jqo kids.list))) []:=by
 have hie:=J5i nm kd s g e kids hv
 rw [if_neg hk1] at hie
 generalize hvv:(RT.mk kd s g e kids).enc nm=v at hie ⊢
 have hvl:v.length=kids.enc.length+1:=by rw [← hvv,Jqk];rfl
 have hd1:v.drop 1=kids.enc:=by rw [← hvv,Jqk];rfl
 (refine Jqa false [] Tryz.func49 ?_;refine Ae hm _ _ _ ?_;simp only [Tryz.ntmps49,Tryz.results49,go_sem,simprocAttr])
 (repeat' (first | ((refine Det.use (J5j _) ?_);simp only [go_sem,simprocAttr]) | fail))
 (refine SWP.range (Jr8 1 kids) 24 [(22,900)] (by simp) _ _ _ _ _ (fun k R=>R=if k=0 then [(1000,.var 35 [.p .snil]),(1001,.var 23 [.p (.sl (rowL v))])] else [(900,.row 23 1 (Jqo (kids.list.take k))),(1000,.var 35 [.own 900 0 k]),(1001,.var 23 [.p (.sl (rowL v))])]) (fun _ _=>False) (by rfl) (by rfl) (by rfl) (hie) (by simp only [go_sem,simprocAttr] <;> rfl) (by first | rfl | simp [Cg]) (by simp) ?hps (by simp only [go_sem,simprocAttr] <;> rfl) (by simp only [go_sem,simprocAttr] <;> rfl) (by simp only [go_sem,simprocAttr] <;> rfl) ?h0 ?hkI ?hkS ?hSn ?round ?done ?stop)
 case hps=>exact fun x hx=>J2y hx
 case h0=>rfl
 case hkI=>rintro k R rfl;split <;> simp [Hg,findKey]
 case hkS=>exact fun _ _ h=>h.elim
 case hSn=>exact fun _ h=>h
 case stop=>exact fun _ _ h=>h.elim
 case round =>
  rintro k x R l hx rfl
  obtain ⟨j,p,b,hp,hd,rfl⟩:=Jt7 hx
  obtain ⟨nm',⟨k',s',g',e',kids'⟩⟩:=p
  simp only at hd
  have hdv:v.drop (1+j)=(RT.mk k' s' g' e' kids').enc nm' ++ b:=by rw [← List.drop_drop,hd1,hd]
  have hs:=J0v hdv
  have hel:((RT.mk k' s' g' e' kids').enc nm').length=kids'.enc.length+1:=by rw [Jqk];rfl
  have hs':((rowL v).drop (1+j)).take (1+j+((RT.mk k' s' g' e' kids').enc nm').length - (1+j))=[.int .i64 k',.int .i64 kids'.len,.str nm',.str s',.int .i64 g',.int .i64 e'.kind,.int .i64 e'.many,.str e'.name,.str e'.s,.bool e'.neg,.int .i64 e'.e] :: rowL kids'.enc:=by
   rw [Nat.add_sub_cancel_left,hs,Jqk,Jts,Jqy]
  have h6:∀ q∈[.int .i64 k',.int .i64 kids'.len,.str nm',.str s',.int .i64 g',.int .i64 e'.kind,.int .i64 e'.many,.str e'.name,.str e'.s,.bool e'.neg,.int .i64 e'.e] :: rowL kids'.enc,q.length=11:=fun q hq=>Jtz ((RT.mk k' s' g' e' kids').enc nm') q (by rw [Jqk];exact hq)
  have htk:(rowL kids'.enc).take kids'.enc.length=rowL kids'.enc:=List.take_of_length_le (by simp)
  have hlen:=congrArg List.length hdv
  rw [List.length_append,List.length_drop] at hlen
  have hpe:Jqo (kids.list.take (k+1))=Jqo (kids.list.take k) ++ [[.sl (rowL ((RT.mk k' s' g' e' kids').enc []))]]:=Jxa hp
  rw [Jqk,Jts,Jqy] at hpe
  by_cases hk:k=0
  ·subst hk
   rw [if_pos rfl]
   simp only [go_sem,simprocAttr]
   (refine Ae hm _ _ _ ?_;simp only [go_sem,simprocAttr,hs',Jqe])
   (repeat' (first | (refine And.intro (Jtz _) ?_)|(refine Jsx ?_)|((refine Det.use (J3p _ _ h6 (by rw [Jqe];omega)) ?_);simp only [go_sem,simprocAttr,htk,Nat.le_refl,Jqe]) | fail))
   refine ⟨by simp,_,rfl,?_⟩
   rw [hpe]
   exact (St.le_slots (by simp only [Ar]) (by simp (disch:=omega) [Az,A3,Aw,Am,Af,Ai,Au,Aa]) (by simp [Ay]))
  ·rw [if_neg hk]
   have hkl:=(List.getElem?_eq_some_iff.1 hp).1
   rw [RF.list_len] at hkl
   have hll:=RF.len_le kids
   simp only [go_sem,simprocAttr]
   (refine Ae hm _ _ _ ?_;simp only [go_sem,simprocAttr,hs',Jqe])
   (repeat' (first | (refine And.intro (Jtz _) ?_)|(refine Jsx ?_)|((refine Det.use (J3p _ _ h6 (by rw [Jqe];omega)) ?_);simp only [go_sem,simprocAttr,htk,Nat.le_refl,Jqe]) | fail))
   refine ⟨by simp,by rw [Jq9,List.length_take,RF.list_len];omega,by omega,by omega,_,rfl,?_⟩
   rw [hpe]
   exact (St.le_slots (by simp only [Ar]) (by simp (disch:=omega) [Az,A3,Aw,Am,Af,Ai,Au,Aa]) (by simp [Ay]))
 case done =>
  rintro R rfl
  rw [Jt4]
  have hll:=RF.list_len kids
  by_cases hk:kids.len=0
  ·rw [if_pos hk]
   have hnil:kids.list=[]:=List.eq_nil_of_length_eq_zero (by omega)
   rw [hnil]
   simp only [go_sem,simprocAttr]
   refine ⟨⟨Ba 24 [(3,.ptr 3 0 0)],[(3,.var 35 [.p (.sl [])])]⟩,Jqb,?_⟩
   simp only [go_sem,simprocAttr]
   rfl
  ·rw [if_neg hk]
   have htk:kids.list.take kids.len=kids.list:=List.take_of_length_le (by omega)
   rw [htk]
   have hpl:(kids.len≤(Jqo kids.list).length)=True:=eq_true (by rw [Jq9];omega)
   have hpt:(Jqo kids.list).take kids.len=Jqo kids.list:=List.take_of_length_le (by rw [Jq9];omega)
   simp only [go_sem,simprocAttr]
   refine ⟨_,St.Le.refl _,?_⟩
   simp only [go_sem,simprocAttr,hpl,hpt]
theorem J61 (nm:List UInt8) (s:List UInt8) (g:Int) (e:Node) (kids:RF) (hv:kids.enc.length≤999999):Det cx 49 [.p (.sl (rowL ((RT.mk 1 s g e kids).enc nm)))] [] (.p (.sl [])) []:=by
 have hie:=J5i nm 1 s g e kids hv
 rw [if_pos rfl] at hie
 generalize hvv:(RT.mk 1 s g e kids).enc nm=v at hie ⊢
 (refine Jqa false [] Tryz.func49 ?_;refine Ae hm _ _ _ ?_;simp only [Tryz.ntmps49,Tryz.results49,go_sem,simprocAttr])
 (repeat' (first | ((refine Det.use (J5j _) ?_);simp only [go_sem,simprocAttr]) | fail))
 (refine SWP.range ([]) 24 [(22,900)] (by simp) _ _ _ _ _ (fun k R=>R=[(1000,.var 35 [.p .snil]),(1001,.var 23 [.p (.sl (rowL v))])]) (fun _ _=>False) (by rfl) (by rfl) (by rfl) (hie) (by simp only [go_sem,simprocAttr] <;> rfl) (by first | rfl | simp [Cg]) (by simp) ?hps (by simp only [go_sem,simprocAttr] <;> rfl) (by simp only [go_sem,simprocAttr] <;> rfl) (by simp only [go_sem,simprocAttr] <;> rfl) ?h0 ?hkI ?hkS ?hSn ?round ?done ?stop)
 case hps=>exact fun x hx=>by cases hx
 case h0=>rfl
 case hkI=>rintro k R rfl;simp [Hg,findKey]
 case hkS=>exact fun _ _ h=>h.elim
 case hSn=>exact fun _ h=>h
 case stop=>exact fun _ _ h=>h.elim
 case round =>
  rintro k x R l hx rfl
  simp at hx
 case done =>
  rintro R rfl
  simp only [go_sem,simprocAttr]
  refine ⟨⟨Ba 24 [(3,.ptr 3 0 0)],[(3,.var 35 [.p (.sl [])])]⟩,Jqb,?_⟩
  simp only [go_sem,simprocAttr]
def Jq3 (l:List (Int×Node)):List (List PV):=l.map fun a=>[.int .i64 a.1,.int .i64 a.2.kind,.int .i64 a.2.many,.str a.2.name,.str a.2.s,.bool a.2.neg,.int .i64 a.2.e]
def Jqx (l:List RKT):List (Int×Node):=l.map fun p=>(p.2.n,p.2.c)
@[simp] theorem Jqn (l:List (Int×Node)):(Jq3 l).length=l.length:=by simp [Jq3]
theorem Jus {l:List (Int×Node)} {i:Nat} {a:Int×Node} (h:l[i]? = some a):(Jq3 l)[i]? = some [.int .i64 a.1,.int .i64 a.2.kind,.int .i64 a.2.many,.str a.2.name,.str a.2.s,.bool a.2.neg,.int .i64 a.2.e]:=by simp [Jq3,h]
theorem Jyn {l:List (Int×Node)} {i:Nat} {a:Int×Node} (h:l[i]? = some a):Jq3 (l.take (i+1))=Jq3 (l.take i) ++ [[.int .i64 a.1,.int .i64 a.2.kind,.int .i64 a.2.many,.str a.2.name,.str a.2.s,.bool a.2.neg,.int .i64 a.2.e]]:=by
 rw [List.take_add_one,h];simp [Jq3]
def J0b (l:List RKT):Prop:=∀ p∈l,p.2.kids=.nil
theorem Jzb:∀ {f:RF},J0b f.list→f.enc.length=f.len
 | .nil,_=>by rw [Jqt];rfl
 | .cons nm (.mk k s n c kids) r,h=>by
  have h1:kids=.nil:=h _ List.mem_cons_self
  subst h1
  have h2:=Jzb (f:=r) fun p hp=>h p (List.mem_cons_of_mem _ hp)
  rw [Jqf,Jqk,Jqt,List.length_append,h2,Jrq]
  simp;omega
theorem Jzh:∀ {f:RF} {i:Nat} {p:RKT},J0b f.list→f.list[i]? = some p→f.enc[i]? = some ⟨p.2.kind,0,p.1,p.2.s,p.2.n,p.2.c⟩
 | .nil,i,p,_,h=>by simp [RF.list] at h
 | .cons nm (.mk k s n c kids) r,i,p,h,hp=>by
  have h1:kids=.nil:=h _ List.mem_cons_self
  subst h1
  rw [Jqf,Jqk,Jqt]
  cases i with
  | zero =>
   simp only [RF.list,List.getElem?_cons_zero,Option.some.injEq] at hp
   subst hp;rfl
  | succ i =>
   simp only [RF.list,List.getElem?_cons_succ] at hp
   have:=Jzh (f:=r) (fun p hp=>h p (List.mem_cons_of_mem _ hp)) hp
   simpa using this
theorem J30 (nm:List UInt8) (kd:Int) (s:List UInt8) (g:Int) (e:Node) (kids:RF) (hv:kids.enc.length≤999999) (hk:J0b kids.list):Det cx 129 [.p (.sl (rowL ((RT.mk kd s g e kids).enc nm))),.p (.int .i64 0)] [] (.p (.sl (Jq3 (Jqx kids.list)))) []:=by
 have hll:=RF.list_len kids
 have hel:=Jzb hk
 generalize hvv:(RT.mk kd s g e kids).enc nm=v
 have h0:v.drop 0=⟨kd,kids.len,nm,s,g,e⟩ :: kids.enc:=by rw [← hvv,Jqk];rfl
 have hg0:=Jru h0
 rw [Jqy] at hg0
 have hvl:v.length=kids.enc.length+1:=by rw [← hvv,Jqk];rfl
 have hd:((rowL v).drop 1).take (1+kids.len - 1)=rowL kids.enc:=by
  rw [← hvv,Jqk,Jts,List.drop_succ_cons,List.drop_zero,List.take_of_length_le (by rw [Jqe];omega)]
 have hal:(Jqx kids.list).length=kids.len:=by simp [Jqx,hll]
 have w1:IntKind.i64.wrap (1+(kids.len:Int))=((1+kids.len:Nat):Int):=by rw [Aa (by omega) (by omega)];omega
 have w0:IntKind.i64.wrap 1=1:=by decide
 have w2:(((1+kids.len:Nat):Int)).toNat=1+kids.len:=Int.toNat_natCast _
 (refine Jqa false [] Tryz.func129 ?_;refine Ae hm _ _ _ ?_;simp only [Tryz.ntmps129,Tryz.results129,go_sem,simprocAttr,hg0,hd,Jqe,w0,w1,w2,hel])
 (repeat' (first | (refine And.intro (Jtz _) ?_)|(refine Jsx ?_) | fail))
 refine SWP.loop (fun i:Nat=>if i=0 then ⟨Ba 35 [(5,.p .snil),(19,.p (.sl (rowL kids.enc))),(20,.p (.int .i64 kids.len)),(21,.p (.int .i64 0))],[]⟩ else ⟨Ba 35 [(5,.own 32 0 i),(19,.p (.sl (rowL kids.enc))),(20,.p (.int .i64 kids.len)),(21,.p (.int .i64 i))],[(32,.row 118 7 (Jq3 ((Jqx kids.list).take i)))]⟩) (fun i=>i≤kids.len) (fun i=>kids.len - i) 0 (by rw [if_pos rfl];exact Jqb) (Nat.zero_le _) ?_
 rintro i hi
 by_cases hlt:¬ i<kids.len
 ·have hi2:i=kids.len:=by omega
  subst hi2
  by_cases hz:kids.len=0
  ·rw [if_pos hz]
   have hk0:Jqx kids.list=[]:=List.eq_nil_of_length_eq_zero (by omega)
   rw [hk0,hz]
   refine SWP.of_le (show St.Le _ ⟨Ba 35 [(5,.p (.sl [])),(20,.p (.int .i64 0)),(21,.p (.int .i64 0))],[]⟩ from Jqb) ?_
   (refine Ae hm _ _ _ ?_;simp only [go_sem,simprocAttr])
   skip
   rfl
  ·rw [if_neg hz]
   have c1:((kids.len:Int)<(kids.len:Int))=False:=eq_false (by omega)
   have hpl:(kids.len≤(Jqx kids.list).length)=True:=eq_true (by omega)
   have ht1:(Jqx kids.list).take kids.len=Jqx kids.list:=List.take_of_length_le (by omega)
   have ht2:(Jq3 (Jqx kids.list)).take kids.len=Jq3 (Jqx kids.list):=List.take_of_length_le (by rw [Jqn];omega)
   (refine Ae hm _ _ _ ?_;simp only [go_sem,simprocAttr,c1,hpl,ht1,ht2,Jqn])
   skip
 ·have hlt:=Decidable.not_not.1 hlt
  obtain ⟨p,hp⟩:∃ p,kids.list[i]? = some p:=⟨_,List.getElem?_eq_getElem (by omega)⟩
  have hgi:=Kca (Jzh hk hp)
  rw [Jqy] at hgi
  have hga:(Jqx kids.list)[i]? = some (p.2.n,p.2.c):=by simp [Jqx,hp]
  have htk:=Jyn hga
  have hpl:(Jq3 ((Jqx kids.list).take i)).length=i:=by rw [Jqn,List.length_take];omega
  have c1:((i:Int)<(kids.len:Int))=True:=eq_true (by omega)
  by_cases hz:i=0
  ·subst hz
   rw [if_pos rfl]
   have c2:((0:Int)<(kids.len:Int))=True:=eq_true (by omega)
   have hgi':(rowL kids.enc)[0]? = _:=hgi
   (refine Ae hm _ _ _ ?_;simp only [go_sem,simprocAttr,w0,c2,hgi',w0])
   skip
   refine ⟨by simp,1,by omega,by omega,?_⟩
   rw [htk,if_neg (by omega),show Jq3 (List.take 0 (Jqx kids.list))=[] from rfl,List.nil_append]
   exact Jqb
  ·rw [if_neg hz]
   (refine Ae hm _ _ _ ?_;simp only [go_sem,simprocAttr,c1,hgi,hpl,wj1 (i:=i) (by omega)])
   skip
   refine ⟨by simp,by omega,by omega,i+1,by omega,by omega,?_⟩
   rw [htk,if_neg (by omega)]
   exact Jqb
theorem J92 (nm:List UInt8) (s:List UInt8) (g:Int) (e:Node) (kids:RF) (hv:kids.enc.length≤999999) (hk:J0b kids.list):Det cx 51 [.p (.sl (rowL ((RT.mk 1 s g e kids).enc nm)))] [] (.p (.sl (Jq3 (Jqx kids.list)))) []:=by
 have h0:((RT.mk 1 s g e kids).enc nm).drop 0=⟨1,kids.len,nm,s,g,e⟩ :: kids.enc:=by rw [Jqk];rfl
 have hg0:=Jru h0
 rw [Jqy] at hg0
 (refine Jqa false [] Tryz.func51 ?_;refine Ae hm _ _ _ ?_;simp only [Tryz.ntmps51,Tryz.results51,go_sem,simprocAttr,hg0])
 (repeat' (first | ((refine Det.use (J30 nm 1 s g e kids hv hk) ?_);simp only [go_sem,simprocAttr]) | fail))
end Go.LX
namespace Go.LX
def Jqq (s:List UInt8):List UInt8:=s.dropWhile (· == 48)
def Jrv (s:List UInt8):List UInt8:=(s.reverse.dropWhile (· == 48)).reverse
theorem Juk {c:UInt8}:c.toNat=48 ↔ c=48:=by
 constructor
 ·intro h;exact UInt8.toNat_inj.1 (by simpa using h)
 ·intro h;subst h;rfl
theorem Jxv (c:UInt8) (l:List UInt8):at_ (c :: l) 0=c.toNat:=by simp [at_]
theorem J1f (l:List UInt8) (c:UInt8):at_ (l ++ [c]) l.length=c.toNat:=by simp [at_,List.getD_eq_getElem?_getD]
theorem J2m {u:List UInt8} (h0:0<u.length) (h:at_ u 0=48):Jqq (u.drop 1)=Jqq u:=by
 cases u with
 | nil=>simp at h0
 | cons c l =>
  rw [Jxv,Juk] at h
  subst h
  simp [Jqq]
theorem Jxk {u:List UInt8} (h:at_ u 0≠48):Jqq u=u:=by
 cases u with
 | nil=>rfl
 | cons c l =>
  rw [Jxv] at h
  have:c≠48:=fun hc=>h (Juk.2 hc)
  simp [Jqq,List.dropWhile_cons,this]
theorem J3k {u:List UInt8} (h:u.length=0):Jqq u=u:=by
 cases u with
 | nil=>rfl
 | cons c l=>simp at h
theorem Jyt (u:List UInt8):(Jqq u).length≤u.length:=by
 exact (List.dropWhile_sublist _).length_le
theorem Jw9 (u:List UInt8) (h:0<(Jqq u).length):at_ (Jqq u) 0≠48:=by
 induction u with
 | nil=>simp [Jqq] at h
 | cons c l ih =>
  by_cases hc:c=48
  ·subst hc
   have:Jqq (48 :: l)=Jqq l:=by simp [Jqq]
   rw [this] at h ⊢
   exact ih h
  ·have:Jqq (c :: l)=c :: l:=by simp [Jqq,List.dropWhile_cons,hc]
   rw [this,Jxv]
   exact fun hh=>hc (Juk.1 hh)
theorem J1l {u:List UInt8} (h:0<u.length):∃ l c,u=l ++ [c]:=by
 have hne:u≠[]:=by intro hu;subst hu;simp at h
 exact ⟨u.dropLast,u.getLast hne,(List.dropLast_concat_getLast hne).symm⟩
theorem Jxe (l:List UInt8) (c:UInt8):Jrv (l ++ [c])=if c=48 then Jrv l else l ++ [c]:=by
 simp only [Jrv,List.reverse_append,List.reverse_cons,List.reverse_nil,List.nil_append,List.cons_append,List.dropWhile_cons]
 by_cases h:c=48
 ·simp [h]
 ·simp [h]
theorem Juf {u:List UInt8} (h0:0<u.length) (h:at_ u (u.length - 1)=48):Jrv (u.take (u.length - 1))=Jrv u:=by
 obtain ⟨l,c,rfl⟩:=J1l h0
 have e:(l ++ [c]).length - 1=l.length:=by simp
 rw [e] at h ⊢
 rw [J1f,Juk] at h
 rw [Jxe,if_pos h]
 simp
theorem Jtj {u:List UInt8} (h0:0<u.length) (h:at_ u (u.length - 1)≠48):Jrv u=u:=by
 obtain ⟨l,c,rfl⟩:=J1l h0
 have e:(l ++ [c]).length - 1=l.length:=by simp
 rw [e,J1f] at h
 rw [Jxe,if_neg (fun hc=>h (Juk.2 hc))]
theorem Jx6 (u:List UInt8):(Jrv u).length≤u.length:=by
 have:=(List.dropWhile_sublist (l:=u.reverse) (fun x=>x == 48)).length_le
 simpa [Jrv] using this
theorem J0o {u:List UInt8} {n i:Nat} (h:i<n):at_ (u.take n) i=at_ u i:=by
 simp [at_,List.getD_eq_getElem?_getD,List.getElem?_take,h]
theorem Jyw:∀ (n:Nat) (u:List UInt8),u.length=n→0<u.length→at_ u 0≠48→0<(Jrv u).length
 | 0,u,hn,h0,_=>by omega
 | n+1,u,hn,h0,h=>by
  by_cases hl:at_ u (u.length - 1)=48
  ·have hn0:1<u.length:=by
    by_cases h1:u.length=1
    ·rw [h1] at hl;exact absurd hl h
    ·omega
   rw [← Juf h0 hl]
   exact Jyw n _ (by simp;omega) (by simp;omega) (by rw [J0o (by omega)];exact h)
  ·rw [Jtj h0 hl];exact h0
theorem Kag {s:List UInt8} (h0:0<s.length):Jqq (Jrv s)=s ↔ at_ s 0≠48∧at_ s (s.length - 1)≠48:=by
 constructor
 ·intro h
  have hl:at_ s (s.length - 1)≠48:=by
   intro hc
   have h1:=Jyt (Jrv s)
   rw [h,← Juf h0 hc] at h1
   have h2:=Jx6 (s.take (s.length - 1))
   simp only [List.length_take] at h2
   omega
  rw [Jtj h0 hl] at h
  have:=Jw9 s (by rw [h];exact h0)
  rw [h] at this
  exact ⟨this,hl⟩
 ·rintro ⟨h1,h2⟩
  rw [Jtj h0 h2,Jxk h1]
end Go.LX
namespace Go.LX
open Go Go.RowKit Go.Proofs Go.Lib
def J2h (c:UInt8):Bool:=decide (48≤c.toNat) && decide (c.toNat≤57)
def Jql (s:List UInt8):Bool:=s.all J2h
def figR (r:Nat):Bool:=decide (48≤r) && decide (r≤57)
theorem Jy7 {n b0 b1 b2 b3:Nat} (h:128≤b0):128≤(decodeN n b0 b1 b2 b3).1:=by
 unfold decodeN
 repeat' split
 all_goals first | omega | (simp_all;done)|(simp_all;omega)
theorem J2k {s:ByteArray} {pos:Nat} (h:figR (Utf8.decode s pos).1=true):figR (s.data.toList.getD pos 0).toNat=true∧(Utf8.decode s pos).2=1:=by
 rw [decode_N] at h ⊢
 by_cases hb:(s.data.toList.getD pos 0).toNat<128
 ·rw [decodeN_ascii _ _ _ _ _ hb] at h ⊢
  exact ⟨h,rfl⟩
 ·have:=Jy7 (n:=s.data.toList.length - pos) (b1:=(s.data.toList.getD (pos+1) 0).toNat) (b2:=(s.data.toList.getD (pos+2) 0).toNat) (b3:=(s.data.toList.getD (pos+3) 0).toNat) (by omega:128≤(s.data.toList.getD pos 0).toNat)
  simp only [figR,Bool.and_eq_true,decide_eq_true_eq] at h
  omega
theorem J42 {s:ByteArray} {pos:Nat} (h:figR (s.data.toList.getD pos 0).toNat=true):Utf8.decode s pos=((s.data.toList.getD pos 0).toNat,1):=by
 rw [decode_N,decodeN_ascii]
 simp only [figR,Bool.and_eq_true,decide_eq_true_eq] at h
 omega
theorem J15 {s:ByteArray}:∀ (f pos:Nat),s.size≤pos+f→idxFuncFrom figR false s f pos = -1→∀ j,pos≤j→j<s.size→figR (s.data.toList.getD j 0).toNat=true
 | 0,pos,hf,_,j,h1,h2=>by omega
 | f+1,pos,hf,h,j,h1,h2=>by
  unfold idxFuncFrom at h
  rw [if_pos (by omega)] at h
  split at h
  ·omega
  ·rename_i hp
   have hp':figR (Utf8.decode s pos).1=true:=by simpa using hp
   obtain ⟨g1,g2⟩:=J2k hp'
   by_cases hj:j=pos
   ·subst hj;exact g1
   ·rw [g2] at h
    exact J15 f (pos+1) (by omega) h j (by omega) h2
theorem J2s {s:ByteArray}:∀ (f pos k:Nat),idxFuncFrom figR false s f pos=(k:Int)→k<s.size∧figR (s.data.toList.getD k 0).toNat=false
 | 0,pos,k,h=>by simp [idxFuncFrom] at h
 | f+1,pos,k,h=>by
  unfold idxFuncFrom at h
  split at h
  ·rename_i hlt
   split at h
   ·rename_i hp
    have hk:pos=k:=by omega
    subst hk
    refine ⟨hlt,?_⟩
    cases hb:figR (s.data.toList.getD pos 0).toNat with
    | false=>rfl
    | true =>
     rw [J42 hb] at hp
     simp only at hp
     rw [hb] at hp
     cases hp
   ·exact J2s f _ k h
  ·omega
theorem Jyz {l:List UInt8} (hl:l≠[]) (h:figR (decodeLastL l).1=true):figR (l.getD (l.length - 1) 0).toNat=true∧(decodeLastL l).2=1:=by
 unfold decodeLastL at h ⊢
 rw [if_neg hl] at h ⊢
 split
 ·rename_i hb
  rw [if_pos hb] at h
  exact ⟨h,rfl⟩
 ·rename_i hb
  rw [if_neg hb] at h
  simp only at h
  split at h
  ·rename_i hd
   exfalso
   have hlen:0<l.length:=List.length_pos_iff.2 hl
   have hfig:(decodeL (l.drop (lastStart l))).1<128:=by simp [figR] at h;omega
   generalize hq:l.drop (lastStart l)=q at hfig hd
   cases q with
   | nil =>
    have:=congrArg List.length hq
    simp only [List.length_drop,List.length_nil] at this
    rw [show (decodeL []).2=1 from by decide] at hd
    omega
   | cons c r =>
    have hc:c.toNat<128:=by
     by_cases hc:c.toNat<128
     ·exact hc
     ·exfalso
      simp only [decodeL] at hfig
      rw [decode_N] at hfig
      simp only [List.getD_cons_zero] at hfig
      have:=fun n b1 b2 b3=>Jy7 (n:=n) (b1:=b1) (b2:=b2) (b3:=b3) (by omega:128≤c.toNat)
      exact absurd hfig (Nat.not_lt.2 (this _ _ _ _))
    rw [decodeL_ascii c r hc] at hd
    simp only at hd
    have hlr:r=[]:=by
     have:=congrArg List.length hq
     simp at this
     exact List.eq_nil_of_length_eq_zero (by omega)
    subst hlr
    have e:l.getD (l.length - 1) 0=c:=by
     have h1:l[lastStart l]? = some c:=by
      have:=congrArg (fun x=>x[0]?) hq
      simpa using this
     have h2:l.length - 1=lastStart l:=by omega
     rw [h2];simp [List.getD_eq_getElem?_getD,h1]
    rw [e] at hb
    exact hb hc
  ·exfalso;simp [figR,Utf8.runeError] at h
theorem J0r {s:ByteArray}:∀ (f i:Nat),i≤f→i≤s.size→lastIdxFuncFrom figR false s f i = -1→∀ j,j<i→figR (s.data.toList.getD j 0).toNat=true
 | 0,i,hf,_,h,j,hj=>by omega
 | f+1,i,hf,hs,h,j,hj=>by
  unfold lastIdxFuncFrom at h
  rw [if_pos (by omega)] at h
  split at h
  ·omega
  ·rename_i hp
   have hsz:s.data.toList.length=s.size:=by simp
   have hl:(s.data.toList.take i).length=i:=by rw [List.length_take];omega
   have hp':figR (decodeLastL (s.data.toList.take i)).1=true:=by simpa using hp
   obtain ⟨g1,g2⟩:=Jyz (by intro hn;rw [hn] at hl;simp at hl;omega) hp'
   rw [hl] at g1
   rw [g2] at h
   by_cases hji:j=i - 1
   ·subst hji
    have:(s.data.toList.take i).getD (i - 1) 0=s.data.toList.getD (i - 1) 0:=by
     simp [List.getD_eq_getElem?_getD,List.getElem?_take,show i - 1<i by omega]
    rw [← this];exact g1
   ·exact J0r f (i - 1) (by omega) (by omega) h j (by omega)
theorem Jxg {l:List UInt8}:Jql l=true ↔ ∀ j,j<l.length→figR (l.getD j 0).toNat=true:=by
 simp only [Jql,List.all_eq_true]
 constructor
 ·intro h j hj
  have:=h l[j] (List.getElem_mem hj)
  simpa [List.getD_eq_getElem?_getD,hj,figR,J2h] using this
 ·intro h x hx
  obtain ⟨j,hj,rfl⟩:=List.getElem_of_mem hx
  simpa [List.getD_eq_getElem?_getD,hj,figR,J2h] using h j hj
theorem Jzx (s:ByteArray):((trimF figR s).data.toList == [])=Jql s.data.toList:=by
 unfold trimF
 by_cases hk:idxFunc figR false s = -1
 ·have h1:Jql s.data.toList=true:=by
   rw [Jxg]
   intro j hj
   rw [size_list] at hj
   exact J15 s.size 0 (by omega) hk j (Nat.zero_le _) hj
  rw [h1]
  unfold trimLeftF
  rw [if_pos hk]
  unfold trimRightF
  simp [ByteArray.data_extract]
 ·obtain ⟨k,hk2⟩:∃ k:Nat,idxFunc figR false s=k:=by
   rcases idxFunc_range figR false s with h | ⟨h,_⟩
   ·exact absurd h hk
   ·exact ⟨_,(Int.toNat_of_nonneg h).symm⟩
  obtain ⟨h1,h2⟩:=J2s _ _ _ hk2
  have h3:Jql s.data.toList=false:=by
   cases hf:Jql s.data.toList with
   | false=>rfl
   | true =>
    rw [Jxg] at hf
    rw [hf k (by rw [size_list];exact h1)] at h2
    cases h2
  rw [h3]
  have ht:trimLeftF figR s=s.extract k s.size:=by
   unfold trimLeftF
   rw [if_neg hk,hk2]
   simp
  rw [ht]
  generalize hte:s.extract k s.size=t
  have htl:t.data.toList=s.data.toList.drop k:=by
   rw [← hte]
   simp [ByteArray.data_extract,Array.toList_extract]
   rw [List.take_of_length_le (by simp)]
  have hts:t.size=s.size - k:=by rw [← size_list,htl,List.length_drop,size_list]
  have h0:figR (t.data.toList.getD 0 0).toNat=false:=by
   rw [htl]
   simpa [List.getD_eq_getElem?_getD,List.getElem?_drop] using h2
  have hlast:0≤lastIdxFunc figR false t:=by
   rcases lastIdxFuncFrom_range figR false t t.size t.size with h | ⟨h,_⟩
   ·have:=J0r t.size t.size (Nat.le_refl _) (Nat.le_refl _) h 0 (by omega)
    rw [h0] at this;cases this
   ·exact h
  have hpos:1≤rightEndF figR t:=by
   unfold rightEndF
   rw [if_pos hlast]
   unfold decodeGoB
   by_cases hz:(lastIdxFunc figR false t).toNat=0
   ·rw [hz]
    have hsz:(t.extract 0 t.size).size=t.size:=by simp
    rw [if_neg (by rw [hsz];omega)]
    have:=decodeN_ge1
    rw [decode_N]
    have:=this ((t.extract 0 t.size).data.toList.length - 0) ((t.extract 0 t.size).data.toList.getD 0 0).toNat ((t.extract 0 t.size).data.toList.getD (0+1) 0).toNat ((t.extract 0 t.size).data.toList.getD (0+2) 0).toNat ((t.extract 0 t.size).data.toList.getD (0+3) 0).toNat
    omega
   ·omega
  have:(trimRightF figR t).data.toList≠[]:=by
   intro hn
   unfold trimRightF at hn
   have e:(t.extract 0 (rightEndF figR t)).data.toList=t.data.toList.take (rightEndF figR t):=by simp [ByteArray.data_extract,Array.toList_extract]
   rw [e] at hn
   have hl:=congrArg List.length hn
   rw [List.length_take,size_list] at hl
   simp only [List.length_nil] at hl
   omega
  simpa using this
end Go.LX
namespace Go.LX
end Go.LX
namespace Go.LX
open Go Go.Proofs
abbrev Node.pv (n:Node):List PV:=n.cells
theorem Jsv (n:Node):n.pv=[.int .i64 n.kind,.int .i64 n.many,.str n.name,.str n.s,.bool n.neg,.int .i64 n.e]:=(rfl)
def Jxs (many e:Int):Bool:=decide (-1000≤e) && decide (e≤1000) && decide (many+e≤1000)
theorem Juv {m e:Int}:Jxs m e=false ↔ e < -1000∨1000<e∨1000<m+e:=by
 simp only [Jxs]
 by_cases h1:-1000≤e <;> by_cases h2:e≤1000 <;> by_cases h3:m+e≤1000 <;> simp [h1,h2,h3] <;> omega
def Jq8 (n:Node):Bool :=
 if ¬ n.kind=3 then false else if ¬ n.many=0 then false else if ¬ n.name.length=0 then false else if Jql n.s=false then false else if 100<(n.s.length:Int) then false else
 if n.e < -1000 then false else if 1000<n.e then false else if 1000<(n.s.length:Int)+n.e then false else
 if n.s.length=0 then (if n.neg=false then n.e == 0 else false) else (if ¬ (at_ n.s 0:Int)=48 then ((at_ n.s (n.s.length - 1):Int) != 48) else false)
def cmpI (a b:Int):Int:=if a<b then -1 else if b<a then 1 else 0
def cmpS (a b:List UInt8):Int:=if Op.bytesLess a b=true then -1 else if (Op.bytesLess a b || a == b)=false then 1 else 0
def Js0:Node:=⟨0,0,[],[],false,0⟩
def make (neg:Bool) (s:List UInt8) (e:Int):Node×Int :=
 if Jql s=false then (Js0,4) else
 if (Jqq s).length=0 then ({ Js0 with kind:=3 },0) else
 if e < -100000000 then (Js0,2) else if 100000000<e then (Js0,2) else
 let t:=Jrv (Jqq s)
 let e':=e+((Jqq s).length - t.length)
 if 100<(t.length:Int) then (Js0,2) else if e' < -1000 then (Js0,2) else if 1000<(t.length:Int)+e' then (Js0,2) else
 ({ Js0 with kind:=3,s:=t,neg:=neg,e:=e' },0)
def Jx0 (a b:Node):Int :=
 if a.s.length=0 then cmpI a.s.length b.s.length else if b.s.length=0 then cmpI a.s.length b.s.length else
 if ¬ cmpI (a.s.length+a.e) (b.s.length+b.e)=0 then cmpI (a.s.length+a.e) (b.s.length+b.e) else cmpS a.s b.s
def Jty (a b:Node):Int :=
 if a.neg=true∧b.neg=false then -1 else if b.neg=true∧a.neg=false then 1 else if a.neg=true then Jx0 b a else Jx0 a b
structure Node.small (n:Node):Prop where
 s:n.s.length≤1000000
 e1:-1000000≤n.e
 e2:n.e≤1000000
def Jr4 (n:Node) (p:Int):Int :=
 let i:=(n.s.length:Int) - 1 - (p - n.e)
 if i<0 then 0 else if (n.s.length:Int)≤i then 0 else ((at_ n.s i.toNat:Int) - 48) % 256
def Jsf (f g:Int→Int) (side:Int):Nat→Int→Int
 | 0,_=>0
 | n+1,p=>if f p<g p then -side else if g p<f p then side else Jsf f g side n (p - 1)
def Jsz (a b:Node):Int :=
 let side:=if a.neg=true then -1 else 1
 if a.neg != b.neg then side else
 let top:=max ((a.s.length:Int)+a.e) (b.s.length+b.e)
 Jsf (Jr4 a) (Jr4 b) side (top - min a.e b.e+1).toNat top
def val (l:List UInt8):Int:=l.foldl (fun n c=>n * 10+((c.toNat:Int) - 48)) 0
end Go.LX
namespace Go.Proofs
open Go.Shelf
def Tryz.lays160_ren:Go.Shelf.Ren:=⟨fun | 160=>321 | 232=>275 | 231=>271 | 227=>272 | 234=>276 | 233=>273 | 236=>277 | 235=>274 | 228=>308 | 271=>310 | 151=>309 | 197=>253 | 120=>343 | 152=>342 | 260=>290 | 137=>215 | 119=>358 | 224=>359 | 225=>360 | 217=>261 | 266=>295 | n=>n,fun | 9=>9 | 4=>4 | 3=>3 | 5=>5 | 117=>245 | 116=>244 | 0=>0 | 124=>248 | 21=>21 | 105=>222 | 46=>238 | 119=>234 | 139=>237 | 138=>236 | n=>n,fun | 3=>0 | 4=>1 | n=>n⟩
theorem Tryz.lays160:Go.Proofs.Lays.n160 Tryz.prog Tryz.lays160_ren:={
 mixed:=by kernel_rfl
 f119:=Tryz.func358.trans (congrArg some (by kernel_rfl))
 f120:=Tryz.func343.trans (congrArg some (by kernel_rfl))
 f137:=Tryz.func215.trans (congrArg some (by kernel_rfl))
 f151:=Tryz.func309.trans (congrArg some (by kernel_rfl))
 f152:=Tryz.func342.trans (congrArg some (by kernel_rfl))
 f160:=Tryz.func321.trans (congrArg some (by kernel_rfl))
 f197:=Tryz.func253.trans (congrArg some (by kernel_rfl))
 f217:=Tryz.func261.trans (congrArg some (by kernel_rfl))
 f224:=Tryz.func359.trans (congrArg some (by kernel_rfl))
 f225:=Tryz.func360.trans (congrArg some (by kernel_rfl))
 f227:=Tryz.func272.trans (congrArg some (by kernel_rfl))
 f228:=Tryz.func308.trans (congrArg some (by kernel_rfl))
 f231:=Tryz.func271.trans (congrArg some (by kernel_rfl))
 f232:=Tryz.func275.trans (congrArg some (by kernel_rfl))
 f233:=Tryz.func273.trans (congrArg some (by kernel_rfl))
 f234:=Tryz.func276.trans (congrArg some (by kernel_rfl))
 f235:=Tryz.func274.trans (congrArg some (by kernel_rfl))
 f236:=Tryz.func277.trans (congrArg some (by kernel_rfl))
 f260:=Tryz.func290.trans (congrArg some (by kernel_rfl))
 f266:=Tryz.func295.trans (congrArg some (by kernel_rfl))
 f271:=Tryz.func310.trans (congrArg some (by kernel_rfl))
 t0:=Tryz.underlying0
 a0:=Tryz.isAgg0
 z0:=Tryz.sizeOf0
 v0:=Tryz.zeroValue0
 t3:=Tryz.underlying3
 a3:=Tryz.isAgg3
 z3:=Tryz.sizeOf3
 v3:=Tryz.zeroValue3
 t4:=Tryz.underlying4
 a4:=Tryz.isAgg4
 z4:=Tryz.sizeOf4
 v4:=Tryz.zeroValue4
 t5:=Tryz.underlying5
 a5:=Tryz.isAgg5
 z5:=Tryz.sizeOf5
 v5:=Tryz.zeroValue5
 t9:=Tryz.underlying9
 a9:=Tryz.isAgg9
 z9:=Tryz.sizeOf9
 v9:=Tryz.zeroValue9
 t21:=Tryz.underlying21
 a21:=Tryz.isAgg21
 z21:=Tryz.sizeOf21
 v21:=Tryz.zeroValue21
 t46:=Tryz.underlying238
 a46:=Tryz.isAgg238
 z46:=Tryz.sizeOf238
 v46:=Tryz.zeroValue238
 t105:=Tryz.underlying222
 a105:=Tryz.isAgg222
 z105:=Tryz.sizeOf222
 v105:=Tryz.zeroValue222
 t116:=Tryz.underlying244
 a116:=Tryz.isAgg244
 z116:=Tryz.sizeOf244
 t117:=Tryz.underlying245
 a117:=Tryz.isAgg245
 z117:=Tryz.sizeOf245
 v117:=Tryz.zeroValue245
 t119:=Tryz.underlying234
 a119:=Tryz.isAgg234
 z119:=Tryz.sizeOf234
 t124:=Tryz.underlying248
 a124:=Tryz.isAgg248
 z124:=Tryz.sizeOf248
 v124:=Tryz.zeroValue248
 t138:=Tryz.underlying236
 a138:=Tryz.isAgg236
 z138:=Tryz.sizeOf236
 v138:=Tryz.zeroValue236
 t139:=Tryz.underlying237
 a139:=Tryz.isAgg237
 z139:=Tryz.sizeOf237
 v139:=Tryz.zeroValue237
 g3:=by kernel_rfl
 g4:=by kernel_rfl }
open Go.RowKit in
theorem Tryz.strings_Trim_one (s:ByteArray) (c:UInt8) (hc:c.toNat<128) (w:World) (hs:s.size≤9223372036854775807) :
  Calls Tryz.prog 321 #[.string s,.string ⟨#[c]⟩] w fun e w'=>e=.returned (.string ⟨(Lib.trimB s.data.toList c).toArray⟩)∧(w'=w∨w'=w.drew):=Any.strings_Trim_one Tryz.lays160 s c hc w hs
def Tryz.lays237_ren:Go.Shelf.Ren:=⟨fun | 237=>269 | 272=>307 | 238=>306 | 315=>341 | 273=>340 | 197=>253 | 271=>310 | 260=>290 | 120=>343 | n=>n,fun | 9=>9 | 40=>241 | 4=>4 | 3=>3 | 105=>222 | 21=>21 | 0=>0 | 5=>5 | 119=>234 | 46=>238 | 139=>237 | 138=>236 | n=>n,fun | 3=>0 | 4=>1 | n=>n⟩
theorem Tryz.lays237:Go.Proofs.Lays.n237 Tryz.prog Tryz.lays237_ren:={
 mixed:=by kernel_rfl
 f120:=Tryz.func343.trans (congrArg some (by kernel_rfl))
 f197:=Tryz.func253.trans (congrArg some (by kernel_rfl))
 f237:=Tryz.func269.trans (congrArg some (by kernel_rfl))
 f238:=Tryz.func306.trans (congrArg some (by kernel_rfl))
 f260:=Tryz.func290.trans (congrArg some (by kernel_rfl))
 f271:=Tryz.func310.trans (congrArg some (by kernel_rfl))
 f272:=Tryz.func307.trans (congrArg some (by kernel_rfl))
 f273:=Tryz.func340.trans (congrArg some (by kernel_rfl))
 f315:=Tryz.func341.trans (congrArg some (by kernel_rfl))
 t0:=Tryz.underlying0
 a0:=Tryz.isAgg0
 z0:=Tryz.sizeOf0
 v0:=Tryz.zeroValue0
 t3:=Tryz.underlying3
 a3:=Tryz.isAgg3
 z3:=Tryz.sizeOf3
 v3:=Tryz.zeroValue3
 t4:=Tryz.underlying4
 a4:=Tryz.isAgg4
 z4:=Tryz.sizeOf4
 v4:=Tryz.zeroValue4
 t5:=Tryz.underlying5
 a5:=Tryz.isAgg5
 z5:=Tryz.sizeOf5
 v5:=Tryz.zeroValue5
 t9:=Tryz.underlying9
 a9:=Tryz.isAgg9
 z9:=Tryz.sizeOf9
 v9:=Tryz.zeroValue9
 t21:=Tryz.underlying21
 a21:=Tryz.isAgg21
 z21:=Tryz.sizeOf21
 v21:=Tryz.zeroValue21
 t40:=Tryz.underlying241
 a40:=Tryz.isAgg241
 z40:=Tryz.sizeOf241
 v40:=Tryz.zeroValue241
 t46:=Tryz.underlying238
 a46:=Tryz.isAgg238
 z46:=Tryz.sizeOf238
 v46:=Tryz.zeroValue238
 t105:=Tryz.underlying222
 a105:=Tryz.isAgg222
 z105:=Tryz.sizeOf222
 v105:=Tryz.zeroValue222
 t119:=Tryz.underlying234
 a119:=Tryz.isAgg234
 z119:=Tryz.sizeOf234
 t138:=Tryz.underlying236
 a138:=Tryz.isAgg236
 z138:=Tryz.sizeOf236
 v138:=Tryz.zeroValue236
 t139:=Tryz.underlying237
 a139:=Tryz.isAgg237
 z139:=Tryz.sizeOf237
 v139:=Tryz.zeroValue237
 g3:=by kernel_rfl
 g4:=by kernel_rfl }
open Go.RowKit Go.Lib in
theorem Tryz.strings_TrimFunc_grows (g:Nat) (lb:Array Value) (eg:∀ args w,(callFunc g args).run Tryz.prog w=.ok (.enter g args) w) (p:Nat→Bool) (s:ByteArray) (w:World) (hs:s.size≤9223372036854775807) (hT:Lib.Utf8Tabs 0 1 w) (hp:PredGrows Tryz.prog g lb p w) :
  Calls Tryz.prog 269 #[.string s,.func (.func g) #[] lb] w fun e w'=>e=.returned (.string (Lib.trimF p s))∧Below w.heap.size w w':=Any.strings_TrimFunc_grows Tryz.lays237 g lb eg p s w hs hT hp
end Go.Proofs
set_option maxRecDepth 100000
set_option maxHeartbeats 2000000
namespace Go.LX
open Go Go.RowKit Go.Proofs
attribute [local irreducible] Al SWP Bi
theorem J6w (m e:Int) (hm1:0≤m) (hm2:m≤1000000):Det cx 226 [.p (.int .i64 m),.p (.int .i64 e)] [] (.p (.bool (Jxs m e))) []:=by
 (refine Jqa false [] Tryz.func226 ?_;refine Ae hm _ _ _ ?_;simp only [Tryz.ntmps226,Tryz.results226,go_sem,simprocAttr])
 (repeat' (split)) <;> simp (disch:=omega) [Jxs,Aa, *] <;> omega
theorem J3c (c:Nat):Det cx 270 [.p (.int .i32 c)] [] (.p (.bool (decide (48≤c) && decide (c≤57)))) []:=by
 (refine Jqa false [] Tryz.func270 ?_;refine Ae hm _ _ _ ?_;simp only [Tryz.ntmps270,Tryz.results270,go_sem,simprocAttr])
 (repeat' (split)) <;> (rw [Bool.eq_iff_iff];first | omega | (simp [-List.length_eq_zero_iff,Ac, *];done)|(simp [-List.length_eq_zero_iff,Ac, *];omega))
theorem J53 (s:List UInt8) (hs:s.length≤9223372036854775807):Det cx 240 [.p (.str s)] [] (.p (.bool (Jql s))) []:=Jj5 s hs
theorem Kdp (a:Int):Det cx 235 [.p (.int .i64 a)] [] (.p (.bool false)) []:=by
 (refine Jqa false [] Tryz.func235 ?_;refine Ae hm _ _ _ ?_;simp only [Tryz.ntmps235,Tryz.results235,go_sem,simprocAttr])
theorem Kdq (a:List UInt8):Det cx 237 [.p (.str a)] [] (.p (.bool false)) []:=by
 (refine Jqa false [] Tryz.func237 ?_;refine Ae hm _ _ _ ?_;simp only [Tryz.ntmps237,Tryz.results237,go_sem,simprocAttr])
theorem Jw2 (a b:Int):Det cx 183 [.p (.int .i64 a),.p (.int .i64 b)] [] (.p (.int .i64 (cmpI a b))) []:=by
 (refine Jqa false [] Tryz.func183 ?_;refine Ae hm _ _ _ ?_;simp only [Tryz.ntmps183,Tryz.results183,go_sem,simprocAttr])
 (repeat' (first | (refine iteI (fun h=>?_) (fun h=>?_))|((refine Det.use (Kdp _) ?_);simp only [go_sem,simprocAttr]) | fail))
 all_goals simp [cmpI, *]
theorem J9j (a b:List UInt8):Det cx 185 [.p (.str a),.p (.str b)] [] (.p (.int .i64 (cmpS a b))) []:=by
 (refine Jqa false [] Tryz.func185 ?_;refine Ae hm _ _ _ ?_;simp only [Tryz.ntmps185,Tryz.results185,go_sem,simprocAttr])
 (repeat' (first | (refine iteI (fun h=>?_) (fun h=>?_))|((refine Det.use (Kdq _) ?_);simp only [go_sem,simprocAttr]) | fail))
 all_goals simp_all [cmpS]
theorem nm_eta (x:ByteArray):(⟨⟨x.data.toList⟩⟩:ByteArray)=x:=by rcases x with ⟨⟨l⟩⟩;rfl
theorem J3z (s:List UInt8) (hs:s.length≤9223372036854775807):Det cx 269 [.p (.str s),.fn 270 []] [] (.p (.str (Lib.trimF figR ⟨⟨s⟩⟩).data.toList)) []:=by
 have he:Enters cx.P 270:=enters_of Tryz.func270 (by kernel_rfl) rfl
 refine Det.of_below (v:=.string (Lib.trimF figR ⟨⟨s⟩⟩)) (enters_of Tryz.func269 (by kernel_rfl) rfl) rfl (fun β w Im=>?_) fun β Im w vs hg hf=>?_
 ·have:=PRep.str (w:=w) (Im:=Im) (Lib.trimF figR ⟨⟨s⟩⟩).data.toList
  rw [nm_eta] at this
  exact this
 ·obtain ⟨v,u,rfl,h1,h2⟩:=fit2 hf
  cases Ks h1
  cases Kc0 h2
  refine Tryz.strings_TrimFunc_grows 270 #[] he figR ⟨⟨s⟩⟩ w hs (Jbj hg).tabs fun W x hx hb=>?_
  have hi:∀ b,Im b→b<W.heap.size:=fun b hb'=>Nat.lt_of_lt_of_le (hf.im b hb') hb.size
  exact (J3c x).calls_below (w:=W) (Im:=Im) (cx.mono ⟨fun _ h=>h,fun b hb'=>hb.block b (hf.im b hb')⟩ hg) hi (vs:=[.int .i32 x]) rfl
   (fun i v a hv ha=>by cases i with | zero=>simp at hv ha;subst hv;subst ha;exact PRep.int _ _ | succ i=>simp at hv) (fun β w' Im' u hu=>Na hu)
theorem J2x (s:List UInt8) (hs:s.length≤9223372036854775807):Det cx 223 [.p (.str s)] [] (.p (.bool (Jql s))) []:=by
 (refine Jqa false [] Tryz.func223 ?_;refine Ae hm _ _ _ ?_;simp only [Tryz.ntmps223,Tryz.results223,go_sem,simprocAttr])
 (repeat' (first | ((refine Det.use (J3z s hs) ?_);simp only [go_sem,simprocAttr]) | fail))
 exact Jzx ⟨⟨s⟩⟩
theorem d_Trim (s:List UInt8) (hs:s.length≤9223372036854775807):Det cx 321 [.p (.str s),.p (.str [48])] [] (.p (.str (Jqq (Jrv s)))) []:=by
 refine Det.of_below (v:=.string ⟨⟨Jqq (Jrv s)⟩⟩) (enters_of Tryz.func321 (by kernel_rfl) rfl) rfl (fun β w Im=>PRep.str _) fun β Im w vs hg hf=>?_
 obtain ⟨v,u,rfl,h1,h2⟩:=fit2 hf
 cases Ks h1
 cases Ks h2
 refine (Tryz.strings_Trim_one ⟨⟨s⟩⟩ 48 (by decide) w hs).mono fun e w' ⟨h,hw⟩=>⟨h,?_⟩
 rcases hw with rfl | rfl
 ·exact Below.refl _ _
 ·exact (Below.refl _ _).drew
theorem J67 (neg:Bool) (s:List UInt8) (e:Int) (hs:s.length≤1000000) :
  Det cx 320 [.p (.bool neg),.p (.str s),.p (.int .i64 e)] [] (.tup [.agg (make neg s e).1.pv,.int .i64 (make neg s e).2]) []:=by
 (refine Jqa false [] Tryz.func320 ?_;refine Ae hm _ _ _ ?_;simp only [Tryz.ntmps320,Tryz.results320,go_sem,simprocAttr])
 (repeat' (first | (refine iteI (fun h=>?_) (fun h=>?_))|((refine Det.use (J53 _ (by omega)) ?_);simp only [go_sem,simprocAttr]) | fail))
 ·simp [make, *,Js0,Jsv]
 refine SWP.loop2 (fun u:List UInt8=>⟨Ba 64 [(0,.p (.bool neg)),(1,.p (.str u)),(2,.p (.int .i64 e)),(6,.ptr 6 0 0)],[(6,.var 29 [.junk,.junk,.junk,.junk,.junk,.junk])]⟩)
  (fun u=>Jqq u=Jqq s∧u.length≤s.length) (fun u=>u.length) s 0
  (fun u:List UInt8=>⟨Ba 64 [(0,.p (.bool neg)),(1,.p (.str u)),(2,.p (.int .i64 e)),(6,.ptr 6 0 0)],[(6,.var 29 [.junk,.junk,.junk,.junk,.junk,.junk])]⟩)
  (fun u=>u=Jqq s) Jqb ⟨rfl,by omega⟩ ?_ ?_
 ·rintro u ⟨h1,h2⟩
  (refine Ae hm _ _ _ ?_;simp only [go_sem,simprocAttr])
  (repeat' (first | (refine iteI (fun h=>?_) (fun h=>?_))|(refine Jsx ?_) | fail))
  ·exact ⟨u.drop 1,⟨(J2m (by omega) (by omega)).trans h1,by simp;omega⟩,by simp;omega,Jqb⟩
  ·exact ⟨u,by rw [← h1,Jxk (by omega)],Jqb⟩
  ·exact ⟨u,by rw [← h1,J3k (by omega)],Jqb⟩
 ·rintro u rfl
  have hl:(Jqq s).length≤s.length:=Jyt s
  simp only [go_sem,simprocAttr]
  (repeat' (refine iteI (fun h=>?_) (fun h=>?_)))
  ·simp [make, *,Js0,Jsv]
  ·simp [make, *,Js0,Jsv]
  ·simp [make, *,Js0,Jsv]
  have hd:=Jw9 s (by omega)
  have hp:=Jyw _ _ rfl (by omega) hd
  have hr:=Jx6 (Jqq s)
  refine SWP.loop2 (fun u:List UInt8=>⟨Ba 64 [(0,.p (.bool neg)),(1,.p (.str u)),(2,.p (.int .i64 (e+((Jqq s).length - u.length)))),(6,.ptr 6 0 0)],[(6,.var 29 [.junk,.junk,.junk,.junk,.junk,.junk])]⟩)
   (fun u=>Jrv u=Jrv (Jqq s)∧u.length≤(Jqq s).length∧0<u.length∧at_ u 0≠48) (fun u=>u.length) (Jqq s) 2
   (fun u:List UInt8=>⟨Ba 64 [(0,.p (.bool neg)),(1,.p (.str u)),(2,.p (.int .i64 (e+((Jqq s).length - u.length)))),(6,.ptr 6 0 0)],[(6,.var 29 [.junk,.junk,.junk,.junk,.junk,.junk])]⟩)
   (fun u=>u=Jrv (Jqq s)) Jqb ⟨rfl,by omega,by omega,hd⟩ ?_ ?_
  ·rintro u ⟨h1,h2,h3,h4⟩
   (refine Ae hm _ _ _ ?_;simp only [go_sem,simprocAttr])
   (repeat' (first | (refine iteI (fun h=>?_) (fun h=>?_))|(refine Jsx ?_) | fail))
   all_goals (try simp (disch:=omega) only [Aa,Qs,Ab,Jlh,Mf,Ja0,Jcc,Ja7,Jak] at *)
   ·exact ⟨u.take (u.length - 1),⟨(Juf h3 (by omega)).trans h1,by simp;omega,by
     have:u.length≠1:=by intro h;simp [h] at *;omega
     simp;omega,by rw [J0o (by have:u.length≠1:=(by intro h;simp [h] at *;omega);omega)];exact h4⟩,by simp;omega,Jqb⟩
   ·exact ⟨u,by rw [← h1,Jtj h3 (by omega)],Jqb⟩
  ·rintro u rfl
   simp only [go_sem,simprocAttr]
   (repeat' (refine iteI (fun h=>?_) (fun h=>?_)))
   all_goals (try simp (disch:=omega) only [Aa,Qs,Ab,Jlh,Mf,Ja0,Jcc,Ja7,Jak] at *)
   all_goals simp [make, *,Js0,Jsv]
theorem J39 (n:Node) (hs:n.s.length≤1000000):Det cx 288 [.p (.agg n.pv)] [] (.p (.bool (Jq8 n))) []:=by
 skip
 (refine Jqa false [] Tryz.func288 ?_;refine Ae hm _ _ _ ?_;simp only [Tryz.ntmps288,Tryz.results288,go_sem,simprocAttr,Jsv])
 (repeat' (first | (refine iteI (fun h=>?_) (fun h=>?_))|((first | (refine Jqd hm ?_)|(refine Det.use (J2x _ (by omega)) ?_)|(refine Det.use (J6w _ _ (by omega) (by omega)) ?_)|(refine Det.useQ (d_Trim _ (by omega)) ?_));simp only [go_sem,simprocAttr]) | fail))
 all_goals (try simp (disch:=omega) only [Aa,Qs,Ab,Jlh,Mf,Ja0,Jcc,Ja7,Jak] at *)
 ·simp [-List.length_eq_zero_iff,Ac,Jq8, *]
 ·simp [-List.length_eq_zero_iff,Ac,Jq8, *]
 ·simp [-List.length_eq_zero_iff,Ac,Jq8, *]
 ·simp [-List.length_eq_zero_iff,Ac,Jq8, *]
 ·rw [Juv] at h
  rw [Bool.eq_iff_iff]
  simp [-List.length_eq_zero_iff,Ac,Jq8]
  intros
  omega
 ·simp [-List.length_eq_zero_iff,Ac,Jq8, *]
 ·rename_i hP _ _
  rw [Juv] at hP
  have c1:¬ n.e < -1000:=by omega
  have c2:¬ 1000<n.e:=by omega
  have c3:¬ 1000<(n.s.length:Int)+n.e:=by omega
  simp [-List.length_eq_zero_iff,Ac,Jq8, *]
 ·rename_i hP _ _
  rw [Juv] at hP
  have c1:¬ n.e < -1000:=by omega
  have c2:¬ 1000<n.e:=by omega
  have c3:¬ 1000<(n.s.length:Int)+n.e:=by omega
  simp [-List.length_eq_zero_iff,Ac,Jq8, *]
 ·rename_i hP _
  rw [Juv] at hP
  have c1:¬ n.e < -1000:=by omega
  have c2:¬ 1000<n.e:=by omega
  have c3:¬ 1000<(n.s.length:Int)+n.e:=by omega
  rw [Bool.eq_iff_iff,beq_iff_eq,Kag (by omega)]
  simp [-List.length_eq_zero_iff,Ac,Jq8, *]
  omega
end Go.LX
set_option maxRecDepth 100000
set_option maxHeartbeats 2000000
namespace Go.LX
open Go Go.RowKit Go.Proofs
attribute [local irreducible] Al SWP Bi
theorem Kdv (a b:Node) (ha:a.small) (hb:b.small):Det cx 236 [.p (.agg a.pv),.p (.agg b.pv)] [] (.p (.int .i64 (Jx0 a b))) []:=by
 obtain ⟨a1,a2,a3⟩:=ha
 obtain ⟨b1,b2,b3⟩:=hb
 skip
 (refine Jqa false [] Tryz.func236 ?_;refine Ae hm _ _ _ ?_;simp only [Tryz.ntmps236,Tryz.results236,go_sem,simprocAttr,Jsv])
 simp (disch:=omega) only [Aa]
 (repeat' (first | (refine iteI (fun h=>?_) (fun h=>?_))|((first | (refine Det.use (Jw2 _ _) ?_)|(refine Det.use (J9j _ _) ?_));simp only [go_sem,simprocAttr]) | fail))
 all_goals simp_all [Jx0]
theorem J7k (a b:Node) (ha:a.small) (hb:b.small):Det cx 184 [.p (.agg a.pv),.p (.agg b.pv)] [] (.p (.int .i64 (Jty a b))) []:=by
 skip
 (refine Jqa false [] Tryz.func184 ?_;refine Ae hm _ _ _ ?_;simp only [Tryz.ntmps184,Tryz.results184,go_sem,simprocAttr,Jsv])
 (repeat' (first | (refine iteI (fun h=>?_) (fun h=>?_))|((first | (refine Det.use (Kdv a b ha hb) ?_)|(refine Det.use (Kdv b a hb ha) ?_));simp only [go_sem,simprocAttr]) | fail))
 all_goals simp_all [Jty]
theorem Jxx (n:Node) (p:Int) (hn:n.small) (h1:-10000000≤p) (h2:p≤10000000):Det cx 238 [.p (.agg n.pv),.p (.int .i64 p)] [] (.p (.int .i64 (Jr4 n p))) []:=by
 obtain ⟨a1,a2,a3⟩:=hn
 skip
 (refine Jqa false [] Tryz.func238 ?_;refine Ae hm _ _ _ ?_;simp only [Tryz.ntmps238,Tryz.results238,go_sem,simprocAttr,Jsv])
 simp (disch:=omega) only [Aa]
 (repeat' (first | (refine iteI (fun h=>?_) (fun h=>?_))|(refine Jsx ?_) | fail))
 all_goals (try simp only [Be] at *)
 all_goals (try rw [Aa (by omega) (by omega)])
 all_goals simp [Jr4, *]
theorem J94 (a b:Node) (ha:a.small) (hb:b.small):Det cx 189 [.p (.agg a.pv),.p (.agg b.pv)] [] (.p (.int .i64 (Jsz a b))) []:=by
 obtain ⟨a1,a2,a3⟩:=ha
 obtain ⟨b1,b2,b3⟩:=hb
 skip
 (refine Jqa false [] Tryz.func189 ?_;refine Ae hm _ _ _ ?_;simp only [Tryz.ntmps189,Tryz.results189,go_sem,simprocAttr,Jsv])
 simp (disch:=omega) only [Aa]
 (repeat' (refine iteI (fun h=>?_) (fun h=>?_)))
 ·simp_all [Jsz]
 ·refine SWP.loop (fun p:Int=>⟨Ba 56 [(2,.ptr 2 0 0),(3,.ptr 3 0 0),(5,.p (.int .i64 (-1))),(7,.p (.int .i64 p))],[(2,.var 29 (a.pv.map .p)),(3,.var 29 (b.pv.map .p))]⟩)
   (fun p=>min a.e b.e - 1≤p∧p≤max ((a.s.length:Int)+a.e) (b.s.length+b.e)∧Jsz a b=Jsf (Jr4 a) (Jr4 b) (if a.neg=true then -1 else 1) (p - min a.e b.e+1).toNat p)
   (fun p=>(p - min a.e b.e+1).toNat) (max ((a.s.length:Int)+a.e) (b.s.length+b.e)) (St.le_slots (by simp only [Ap,Ar,Ao,Aj,Af,Nat.reduceEqDiff,reduceIte,Nat.reduceLT,Nat.reduceLeDiff];simp [Ai,Au]) (by simp [Az,A3,Aw,Am,Ai,Jsv]) (by simp [Ay])) ⟨by omega,by omega,by simp_all [Jsz]⟩ ?_
  rintro p ⟨g1,g2,g3⟩
  have key:min a.e b.e≤p→Jsz a b=if Jr4 a p<Jr4 b p then -(if a.neg=true then -1 else 1) else if Jr4 b p<Jr4 a p then (if a.neg=true then -1 else 1) else Jsf (Jr4 a) (Jr4 b) (if a.neg=true then -1 else 1) (p - 1 - min a.e b.e+1).toNat (p - 1):=by
   intro h
   rw [g3,show (p - min a.e b.e+1).toNat=(p - 1 - min a.e b.e+1).toNat+1 by omega,Jsf]
  (refine Ae hm _ _ _ ?_;simp only [go_sem,simprocAttr,Jsv])
  (repeat' (first | (refine iteI (fun h=>?_) (fun h=>?_))|((first | (refine Jqd hm ?_)|(refine Det.useQ (Jxx a p ⟨a1,a2,a3⟩ (by omega) (by omega)) ?_)|(refine Det.useQ (Jxx b p ⟨b1,b2,b3⟩ (by omega) (by omega)) ?_));simp only [go_sem,simprocAttr]) | fail))
  all_goals (try simp (disch:=omega) only [Aa,Qs,Ab,Jlh,Mf,Ja0,Jcc,Ja7,Jak] at *)
  ·(have hk:=key (by assumption);clear key g3;rw [hk];clear hk;simp_all <;> omega)
  ·(have hk:=key (by assumption);clear key g3;rw [hk];clear hk;simp_all <;> omega)
  ·exact ⟨p - 1,⟨by omega,by omega,by (have hk:=key (by assumption);clear key g3;rw [hk];clear hk;simp_all <;> omega)⟩,by omega,(St.le_slots (by simp only [Ap,Ar,Ao,Aj,Af,Nat.reduceEqDiff,reduceIte,Nat.reduceLT,Nat.reduceLeDiff];simp [Ai,Au]) (by simp [Az,A3,Aw,Am,Ai,Jsv]) (by simp [Ay]))⟩
  ·rw [g3,show (p - min a.e b.e+1).toNat=0 by omega];rfl
 ·simp_all [Jsz]
 ·refine SWP.loop (fun p:Int=>⟨Ba 56 [(2,.ptr 2 0 0),(3,.ptr 3 0 0),(5,.p (.int .i64 1)),(7,.p (.int .i64 p))],[(2,.var 29 (a.pv.map .p)),(3,.var 29 (b.pv.map .p))]⟩)
   (fun p=>min a.e b.e - 1≤p∧p≤max ((a.s.length:Int)+a.e) (b.s.length+b.e)∧Jsz a b=Jsf (Jr4 a) (Jr4 b) (if a.neg=true then -1 else 1) (p - min a.e b.e+1).toNat p)
   (fun p=>(p - min a.e b.e+1).toNat) (max ((a.s.length:Int)+a.e) (b.s.length+b.e)) (St.le_slots (by simp only [Ap,Ar,Ao,Aj,Af,Nat.reduceEqDiff,reduceIte,Nat.reduceLT,Nat.reduceLeDiff];simp [Ai,Au]) (by simp [Az,A3,Aw,Am,Ai,Jsv]) (by simp [Ay])) ⟨by omega,by omega,by simp_all [Jsz]⟩ ?_
  rintro p ⟨g1,g2,g3⟩
  have key:min a.e b.e≤p→Jsz a b=if Jr4 a p<Jr4 b p then -(if a.neg=true then -1 else 1) else if Jr4 b p<Jr4 a p then (if a.neg=true then -1 else 1) else Jsf (Jr4 a) (Jr4 b) (if a.neg=true then -1 else 1) (p - 1 - min a.e b.e+1).toNat (p - 1):=by
   intro h
   rw [g3,show (p - min a.e b.e+1).toNat=(p - 1 - min a.e b.e+1).toNat+1 by omega,Jsf]
  (refine Ae hm _ _ _ ?_;simp only [go_sem,simprocAttr,Jsv])
  (repeat' (first | (refine iteI (fun h=>?_) (fun h=>?_))|((first | (refine Jqd hm ?_)|(refine Det.useQ (Jxx a p ⟨a1,a2,a3⟩ (by omega) (by omega)) ?_)|(refine Det.useQ (Jxx b p ⟨b1,b2,b3⟩ (by omega) (by omega)) ?_));simp only [go_sem,simprocAttr]) | fail))
  all_goals (try simp (disch:=omega) only [Aa,Qs,Ab,Jlh,Mf,Ja0,Jcc,Ja7,Jak] at *)
  ·(have hk:=key (by assumption);clear key g3;rw [hk];clear hk;simp_all <;> omega)
  ·(have hk:=key (by assumption);clear key g3;rw [hk];clear hk;simp_all <;> omega)
  ·exact ⟨p - 1,⟨by omega,by omega,by (have hk:=key (by assumption);clear key g3;rw [hk];clear hk;simp_all <;> omega)⟩,by omega,(St.le_slots (by simp only [Ap,Ar,Ao,Aj,Af,Nat.reduceEqDiff,reduceIte,Nat.reduceLT,Nat.reduceLeDiff];simp [Ai,Au]) (by simp [Az,A3,Aw,Am,Ai,Jsv]) (by simp [Ay]))⟩
  ·rw [g3,show (p - min a.e b.e+1).toNat=0 by omega];rfl
end Go.LX
