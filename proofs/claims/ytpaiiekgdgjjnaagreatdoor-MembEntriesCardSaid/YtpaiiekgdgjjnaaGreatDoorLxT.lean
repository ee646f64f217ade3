/- Types: their parts. -/
import Derived.Test.YtpaiiekgdgjjnaaGreatDoorLxS
import Derived.Test.YtpaiiekgdgjjnaaGreatDoorLxM
import Derived.Test.YtpaiiekgdgjjnaaGreatDoorLxK
import Derived.Shelf.Strings.FuncGrows
import Derived.Lib.TrimUEq
import Derived.Lib.TrimAscii
import Derived.Lib.ItoaNum
import Derived.Lib.Repeat
import Derived.Lib.Bytealg
import Derived.Shelf.Strings.Builder1
import Derived.Shelf.Strings.Trim
import Derived.Shelf.Small.Utf8
import Derived.Shelf.Small.Bits
import Derived.Shelf.Small.Strs
import Derived.Shelf.Small.Wraps
import Derived.Shelf.Strings.BuilderF
import Derived.Shelf.Strconv.Atoi
import Derived.Shelf.Strconv.Itoa0
import Derived.Shelf.Strconv.Itoa1
import Derived.Shelf.LaysM
import Derived.Shelf.Strconv.Itoa2
import Derived.Shelf.Strconv.Itoa3
import Derived.Shelf.Strconv.Itoa4
import Derived.Shelf.Strconv.AtoiErrFast
import Derived.Shelf.Strconv.ParseIntEmpty
import Derived.Shelf.Strconv.AtoiFail
import Derived.Shelf.Strconv.Clone
import Derived.Shelf.Strconv.SyntaxError
import Derived.Shelf.LaysC
import Derived.Shelf.Strconv.ToError
import Derived.Shelf.Strconv.Lower
import Derived.Shelf.Strconv.ParseUint10
import Derived.Shelf.Strconv.ParseUint10Empty
import Derived.Shelf.Strconv.ParseUint10Any
import Derived.Shelf.Strconv.ParseInt10
import Derived.Shelf.Strconv.AtoiLong
import Derived.Shelf.Strconv.AtoiInnerAll
import Derived.Shelf.Strconv.RangeError
import Derived.Shelf.Strconv.ToErrorRange
import Derived.Shelf.Strconv.AtoiAll
import Derived.Shelf.Strconv.ErrVarAll
import Derived.Shelf.Strconv.ParseUintEmpty
import Derived.Shelf.Strings.Search1
import Derived.Shelf.GgClosure.StringsIndexFunc
import Derived.Shelf.GgClosure.StringsTrimFunc
import Derived.Shelf.Strings.Prefix
import Derived.Shelf.Unicode.Decode
import Derived.Shelf.Strings.Runes
import Derived.Shelf.Strings.IndexAny
import Derived.Shelf.Strings.AsciiSet
import Derived.Shelf.Strings.IndexAnyAll
import Derived.Shelf.Unicode.DecodeSlow
import Derived.Shelf.Unicode.DecodeAny
import Derived.Shelf.Unicode.DecodeLast
import Derived.Ground.Names2Prog
import Derived.Shelf.Slices.ReverseS
import Derived.Shelf.Slices.SearchI
import Derived.Shelf.Slices.Cells
import Derived.Ground.SlgnProg
import Derived.Shelf.SlicesE.Reverse
import Derived.Test.YtpaiiekgdgjjnaaGreatDoorProg
import Derived.Test.YtpaiiekgdgjjnaaGreatDoorLxR
set_option linter.unusedSimpArgs false
set_option linter.unusedVariables false
set_option linter.unusedSectionVars false
set_option linter.unnecessarySimpa false
set_option maxRecDepth 100000
set_option maxHeartbeats 2000000
namespace Go.LX
open Go Go.RowKit Go.Proofs
attribute [local irreducible] Al SWP Bi
theorem J1v (v:List YRow) (i:Nat) (nm:List UInt8) (t:RT) (rest:List YRow) (hv:v.length≤1000000) (h:v.drop i=t.enc nm ++ rest):Det cx 200 [.p (.sl (rowL v)),.p (.int .i64 i)] [] (.p (.int .i64 (i+(t.enc nm).length:Nat))) []:=by
 (refine bgo Tryz.func200 ?_;simp only [go_sem,simprocAttr]);have hp:=Jso t nm;have hb:=Jvf h (fun e=>by have e2:(t.enc nm ++ rest).length=0:=(by rw [e];rfl);rw [List.length_append] at e2;omega);rw [List.length_append] at hb;refine SWP.loop (fun x:Nat×Nat×RF=>⟨Ba 19 [(0,.p (.sl (rowL v))),(1,.p (.int .i64 x.1)),(5,.p (.int .i64 x.2.1))],[]⟩) (fun x=>x.2.1=x.2.2.len∧v.drop x.1=x.2.2.enc ++ rest∧x.1+x.2.2.enc.length=i+(t.enc nm).length) (fun x=>x.2.2.enc.length) (i,1,.cons nm t .nil) Jqb ⟨rfl,by simp [Jqg,Jq2,h],by simp [Jqg,Jq2]⟩ ?_;rintro ⟨j,left,F⟩ ⟨h0,h1,h2⟩;simp only at h0 h1 h2
 match F,h0,h1,h2 with
 | .nil,h0,h1,h2 =>
  rw [Jq2] at h2;simp only [RF.len] at h0;subst h0;(refine lws ?_;simp only [go_sem,simprocAttr]);simp only [List.length_nil] at h2;omega
 | .cons nm' (.mk k s g e kids) r,h0,h1,h2 =>
  rw [Jr3] at h0;rw [Jqg,Jqo] at h1 h2;have hg:=Jsa h1;rw [Jq9] at hg;simp only [List.length_cons,List.length_append] at h2;have hl1:=Jq3 kids;have hl2:=Jq3 r;have w0:IntKind.i64.wrap ((kids.len:Int) - 1)=(kids.len:Int) - 1:=Aa omg omg;have w1:IntKind.i64.wrap ((left:Int)+((kids.len:Int) - 1))=((r.len+kids.len:Nat):Int):=by rw [Aa omg omg];omega
  (refine lws ?_;simp only [go_sem,simprocAttr,wj1 (i:=j) omg,hg,w0,w1]);(repeat' (first | (apply iteI <;> intro h)|(exfalso;omega)))
  ·exact ⟨(j+1,r.len+kids.len,kids.app r),⟨by simp only [Jsb];omega,by
    simp only [Jqr];rw [← List.drop_drop,h1];simp,by simp only [Jqr,List.length_append];omega⟩,by simp only [Jqr,Jqg,Jqo,List.length_append,List.length_cons];omega,Jqb⟩
theorem J5a (c:List PV) (cs:List (List PV)) (h6:∀ q∈c :: cs,q.length=11) (hl:cs.length≤1000000):Det cx 124 [.p (.sl (c :: cs))] [] (.own 900 0 (cs.length+1)) [(900,.row 31 11 (c :: cs))]:=by
 (refine bgoR true [(7,900)] Tryz.func124 ?_;simp only [go_sem,simprocAttr]);(repeat' (first | (refine Jqe ?_) | fail));omega
theorem J7f (v:List YRow):Det cx 123 [.p (.sl (rowL v))] [] (.fn 199 [900]) [(900,.var 23 [.p (.sl (rowL v))])]:=by
 (refine bgoR true [(1,900)] Tryz.func123 ?_;simp only [go_sem,simprocAttr])
def Jsm:Nat→RF→List (List PV)
 | _,.nil=>[]
 | i,.cons nm t r=>[.int .i64 i,.int .i64 (i+(t.enc nm).length:Nat)] :: Jsm (i+(t.enc nm).length) r
theorem Ju5:∀ (i:Nat) (f:RF),(Jsm i f).length=f.len
 | _,.nil=>rfl
 | i,.cons nm t r=>by rw [Jsm,List.length_cons,Ju5 _ r,Jr3]
theorem Jva:∀ {i:Nat} {f:RF} {k:Nat} {x:List PV},(Jsm i f)[k]? = some x→∃ (j:Nat) (p:RKT) (b:List YRow),f.list[k]? = some p∧f.enc.drop j=p.2.enc p.1 ++ b∧x=[.int .i64 (i+j:Nat),.int .i64 (i+j+(p.2.enc p.1).length:Nat)]
 | i,.nil,k,x,h=>by simp [Jsm] at h
 | i,.cons nm t r,0,x,h=>by
  simp only [Jsm,List.getElem?_cons_zero,Option.some.injEq] at h;exact ⟨0,(nm,t),r.enc,rfl,by rw [List.drop_zero,Jqg],by rw [← h];rfl⟩
 | i,.cons nm t r,k+1,x,h=>by
  simp only [Jsm,List.getElem?_cons_succ] at h;obtain ⟨j,p,b,h1,h2,h3⟩:=Jva h;refine ⟨(t.enc nm).length+j,p,b,h1,?_,?_⟩
  ·rw [Jqg,← List.drop_drop,List.drop_left,h2]
  ·rw [h3];simp only [Nat.add_assoc]
theorem J3q {i:Nat} {f:RF} {x:List PV} (h:x∈Jsm i f):x.length=2:=by
 obtain ⟨k,hk⟩:=List.getElem?_of_mem h;obtain ⟨j,p,b,_,_,rfl⟩:=Jva hk;rfl
theorem J60 (nm:List UInt8) (kd:Int) (s:List UInt8) (g:Int) (e:Node) (kids:RF) (hv:kids.enc.length≤999999):Tb cx 199 [.eptr [.sl (rowL ((RT.mk kd s g e kids).enc nm))]] (if kd=1 then [] else Jsm 1 kids):=by
 have hl:=Jq3 kids;generalize hvv:(RT.mk kd s g e kids).enc nm=v;have h0:v.drop 0=⟨kd,kids.len,nm,s,g,e⟩ :: kids.enc:=by rw [← hvv,Jqo];rfl
 have hg0:=Jsa h0;rw [Jq9] at hg0;have hvl:v.length=kids.enc.length+1:=by rw [← hvv,Jqo];rfl
 by_cases hk1:kd=1
 ·subst hk1;rw [if_pos rfl];(refine Jtu (X:=cx) Tryz.func199 krf rfl krf (by simp only [List.length_cons,List.length_nil,Tryz.ntmps199];decide) fun l=>?_;refine N9 _ _ _ _ ?_;simp only [Tryz.ntmps199,go_sem,simprocAttr,hg0]);refine JWP.loop (fun x:Nat×Nat×RF=>(some 0,⟨Ba 28 [(0,.yld l),(1,.eptr [.sl (rowL v)]),(3,.p (.int .i64 x.2.1)),(8,.p (.int .i64 kids.len)),(9,.p (.int .i64 x.1))],[]⟩)) (fun x=>x.1+x.2.2.len=kids.len∧v.drop x.2.1=x.2.2.enc∧x.2.1+x.2.2.enc.length=v.length) (fun x=>x.2.2.enc.length) (0,1,kids) rfl Jqb ⟨by simp,by rw [← hvv,Jqo];rfl,by simp only;omega⟩ ?_;rintro ⟨k,j,F⟩ ⟨h1,h2,h3⟩;simp only at h1 h2 h3 ⊢
  match F,h1,h2,h3 with
  | .nil,h1,h2,h3 =>
   simp only [RF.len] at h1;(refine N9 _ _ _ _ ?_;simp only [go_sem,simprocAttr]);(repeat' (first | (apply iteI <;> intro h)|(exfalso;omega)));simp
  | .cons nm' t' r,h1,h2,h3 =>
   rw [Jr3] at h1;rw [Jqg] at h2 h3;rw [List.length_append] at h3;have hp:=Jso t' nm';(refine N9 _ _ _ _ ?_;simp only [go_sem,simprocAttr,wj1 (i:=k) omg]);(repeat' (first | (apply iteI <;> intro h)|((refine Jqa (J1v v j nm' t' r.enc omg h2) ?_);simp only [go_sem,simprocAttr,hg0,wj1 (i:=k) omg])|(exfalso;omega)))
   ·exact ⟨(k+1,j+(t'.enc nm').length,r),⟨by simp only;omega,by simp only;rw [← List.drop_drop,h2,List.drop_left],by simp only;omega⟩,by simp only [Jqg,List.length_append];omega,Jqb⟩
   all_goals omega
 ·rw [if_neg hk1];have hk2:(kd=1)=False:=eq_false hk1;(refine Jtu (X:=cx) Tryz.func199 krf rfl krf (by simp only [List.length_cons,List.length_nil,Tryz.ntmps199];decide) fun l=>?_;refine N9 _ _ _ _ ?_;simp only [Tryz.ntmps199,go_sem,simprocAttr,hg0,hk2]);refine JWP.loop (fun x:Nat×Nat×RF=>(some x.1,⟨Ba 28 [(0,.yld l),(1,.eptr [.sl (rowL v)]),(3,.p (.int .i64 x.2.1)),(8,.p (.int .i64 kids.len)),(9,.p (.int .i64 x.1))],[]⟩)) (fun x=>x.1+x.2.2.len=kids.len∧v.drop x.2.1=x.2.2.enc∧x.2.1+x.2.2.enc.length=v.length∧(Jsm 1 kids).drop x.1=Jsm x.2.1 x.2.2) (fun x=>x.2.2.enc.length) (0,1,kids) rfl Jqb ⟨by simp,by rw [← hvv,Jqo];rfl,by simp only;omega,rfl⟩ ?_;rintro ⟨k,j,F⟩ ⟨h1,h2,h3,h4⟩;simp only at h1 h2 h3 h4 ⊢
  match F,h1,h2,h3,h4 with
  | .nil,h1,h2,h3,h4 =>
   simp only [RF.len] at h1;(refine N9 _ _ _ _ ?_;simp only [go_sem,simprocAttr]);(repeat' (first | (apply iteI <;> intro h)|(exfalso;omega)));rw [Ju5];exact .inl (by congr 1)
  | .cons nm' t' r,h1,h2,h3,h4 =>
   rw [Jr3] at h1;rw [Jqg] at h2 h3;rw [List.length_append] at h3;have hp:=Jso t' nm';(refine N9 _ _ _ _ ?_;simp only [go_sem,simprocAttr,wj1 (i:=k) omg]);(repeat' (first | (apply iteI <;> intro h)|((refine Jqa (J1v v j nm' t' r.enc omg h2) ?_);simp only [go_sem,simprocAttr,hg0,hk2,wj1 (i:=k) omg])|(exfalso;omega)))
   ·refine ⟨?_,⟨(k+1,j+(t'.enc nm').length,r),⟨by simp only;omega,by simp only;rw [← List.drop_drop,h2,List.drop_left],by simp only;omega,by simp only;rw [← List.drop_drop,h4];rfl⟩,by simp only [Jqg,List.length_append];omega,rfl,Jqb⟩,.inr trivial⟩;have:=congrArg (·[0]?) h4;simp only [List.getElem?_drop,Nat.add_zero] at this;rw [this];rfl
   all_goals omega
def Jqu (l:List RKT):List (List PV):=l.map fun p=>[.sl (rowL (p.2.enc []))]
@[simp] theorem tpartL_nil:Jqu []=[]:=rfl
theorem Jyc {l:List RKT} {k:Nat} {p:List UInt8×RT} (h:l[k]? = some p):Jqu (l.take (k+1))=Jqu (l.take k) ++ [[.sl (rowL (p.2.enc []))]]:=by
 rw [List.take_add_one,h];simp [Jqu]
theorem Jrm (l:List RKT):(Jqu l).length=l.length:=by simp [Jqu]
theorem J0v {l:List RKT} {i:Nat} {p:RKT} (h:l[i]? = some p):(Jqu l)[i]? = some [.sl (rowL (p.2.enc []))]:=by simp [Jqu,h]
theorem Jzj (nm:List UInt8) (kd:Int) (s:List UInt8) (g:Int) (e:Node) (kids:RF) (hv:kids.enc.length≤999999) (hk1:kd≠1):Det cx 49 [.p (.sl (rowL ((RT.mk kd s g e kids).enc nm)))] [] (.p (.sl (Jqu kids.list))) []:=by
 have hie:=J60 nm kd s g e kids hv;rw [if_neg hk1] at hie;generalize hvv:(RT.mk kd s g e kids).enc nm=v at hie ⊢;have hvl:v.length=kids.enc.length+1:=by rw [← hvv,Jqo];rfl
 have hd1:v.drop 1=kids.enc:=by rw [← hvv,Jqo];rfl
 (refine bgo Tryz.func49 ?_;simp only [go_sem,simprocAttr]);(repeat' (first | ((refine Jqa (J7f _) ?_);simp only [go_sem,simprocAttr]) | fail));(refine SWP.range (Jsm 1 kids) 24 [(22,900)] sm _ _ _ _ _ (fun k R=>R=if k=0 then [(1000,.var 35 [.p .snil]),(1001,.var 23 [.p (.sl (rowL v))])] else [(900,.row 23 1 (Jqu (kids.list.take k))),(1000,.var 35 [.own 900 0 k]),(1001,.var 23 [.p (.sl (rowL v))])]) (fun _ _=>False) (by rfl) (by rfl) (by rfl) (hie) (by simp only [go_sem,simprocAttr] <;> rfl) (by first | rfl | simp [Cg]) sm ?hps (by simp only [go_sem,simprocAttr] <;> rfl) (by simp only [go_sem,simprocAttr] <;> rfl) (by simp only [go_sem,simprocAttr] <;> rfl) ?h0 ?hkI ?hkS ?hSn ?round ?done ?stop)
 case hps=>exact fun x hx=>J3q hx
 case h0=>rfl
 case hkI=>rintro k R rfl;split <;> simp [Hg,findKey]
 case hkS=>exact fun _ _ h=>h.elim
 case hSn=>exact fun _ h=>h
 case stop=>exact fun _ _ h=>h.elim
 case round =>
  rintro k x R l hx rfl;obtain ⟨j,p,b,hp,hd,rfl⟩:=Jva hx;obtain ⟨nm',⟨k',s',g',e',kids'⟩⟩:=p;simp only at hd;have hdv:v.drop (1+j)=(RT.mk k' s' g' e' kids').enc nm' ++ b:=by rw [← List.drop_drop,hd1,hd]
  have hs:=J1r hdv;have hel:((RT.mk k' s' g' e' kids').enc nm').length=kids'.enc.length+1:=by rw [Jqo];rfl
  have hs':((rowL v).drop (1+j)).take (1+j+((RT.mk k' s' g' e' kids').enc nm').length - (1+j))=[.int .i64 k',.int .i64 kids'.len,.str nm',.str s',.int .i64 g',.int .i64 e'.kind,.int .i64 e'.many,.str e'.name,.str e'.s,.bool e'.neg,.int .i64 e'.e] :: rowL kids'.enc:=by
   rw [Nat.add_sub_cancel_left,hs,Jqo,Jua,Jq9]
  have h6:∀ q∈[.int .i64 k',.int .i64 kids'.len,.str nm',.str s',.int .i64 g',.int .i64 e'.kind,.int .i64 e'.many,.str e'.name,.str e'.s,.bool e'.neg,.int .i64 e'.e] :: rowL kids'.enc,q.length=11:=fun q hq=>Jun ((RT.mk k' s' g' e' kids').enc nm') q (by rw [Jqo];exact hq)
  have htk:(rowL kids'.enc).take kids'.enc.length=rowL kids'.enc:=List.take_of_length_le sm;have hlen:=congrArg List.length hdv;rw [List.length_append,List.length_drop] at hlen;have hpe:Jqu (kids.list.take (k+1))=Jqu (kids.list.take k) ++ [[.sl (rowL ((RT.mk k' s' g' e' kids').enc []))]]:=Jyc hp;rw [Jqo,Jua,Jq9] at hpe;by_cases hk:k=0
  ·subst hk;rw [if_pos rfl];simp only [go_sem,simprocAttr];(refine lws ?_;simp only [go_sem,simprocAttr,hs',Jqi]);(repeat' (first | (refine And.intro (Jun _) ?_)|(refine Jqe ?_)|((refine Jqa (J5a _ _ h6 (by rw [Jqi];omega)) ?_);simp only [go_sem,simprocAttr,htk,Nat.le_refl,Jqi]) | fail));refine ⟨by simp,_,rfl,?_⟩;rw [hpe];exact (Jqw (by simp only [Ar]) (by simp (disch:=omega) [Az,A3,Aw,Am,Af,Ai,Au,Aa]) (by simp [Ay]))
  ·rw [if_neg hk];have hkl:=(List.getElem?_eq_some_iff.1 hp).1;rw [Jrc] at hkl;have hll:=Jq3 kids;simp only [go_sem,simprocAttr];(refine lws ?_;simp only [go_sem,simprocAttr,hs',Jqi]);(repeat' (first | (refine And.intro (Jun _) ?_)|(refine Jqe ?_)|((refine Jqa (J5a _ _ h6 (by rw [Jqi];omega)) ?_);simp only [go_sem,simprocAttr,htk,Nat.le_refl,Jqi]) | fail));refine ⟨by simp,by rw [Jrm,List.length_take,Jrc];omega,by omega,by omega,_,rfl,?_⟩;rw [hpe];exact (Jqw (by simp only [Ar]) (by simp (disch:=omega) [Az,A3,Aw,Am,Af,Ai,Au,Aa]) (by simp [Ay]))
 case done =>
  rintro R rfl;rw [Ju5];have hll:=Jrc kids;by_cases hk:kids.len=0
  ·rw [if_pos hk];have hnil:kids.list=[]:=List.eq_nil_of_length_eq_zero omg;rw [hnil];simp only [go_sem,simprocAttr];refine ⟨⟨Ba 24 [(3,.ptr 3 0 0)],[(3,.var 35 [.p (.sl [])])]⟩,Jqb,?_⟩;simp only [go_sem,simprocAttr];rfl
  ·rw [if_neg hk];have htk:kids.list.take kids.len=kids.list:=List.take_of_length_le omg;rw [htk];have hpl:(kids.len≤(Jqu kids.list).length)=True:=eq_true (by rw [Jrm];omega);have hpt:(Jqu kids.list).take kids.len=Jqu kids.list:=List.take_of_length_le (by rw [Jrm];omega);simp only [go_sem,simprocAttr];refine ⟨_,St.Le.refl _,?_⟩;simp only [go_sem,simprocAttr,hpl,hpt]
theorem J75 (nm:List UInt8) (s:List UInt8) (g:Int) (e:Node) (kids:RF) (hv:kids.enc.length≤999999):Det cx 49 [.p (.sl (rowL ((RT.mk 1 s g e kids).enc nm)))] [] (.p (.sl [])) []:=by
 have hie:=J60 nm 1 s g e kids hv;rw [if_pos rfl] at hie;generalize hvv:(RT.mk 1 s g e kids).enc nm=v at hie ⊢;(refine bgo Tryz.func49 ?_;simp only [go_sem,simprocAttr]);(repeat' (first | ((refine Jqa (J7f _) ?_);simp only [go_sem,simprocAttr]) | fail));(refine SWP.range ([]) 24 [(22,900)] sm _ _ _ _ _ (fun k R=>R=[(1000,.var 35 [.p .snil]),(1001,.var 23 [.p (.sl (rowL v))])]) (fun _ _=>False) (by rfl) (by rfl) (by rfl) (hie) (by simp only [go_sem,simprocAttr] <;> rfl) (by first | rfl | simp [Cg]) sm ?hps (by simp only [go_sem,simprocAttr] <;> rfl) (by simp only [go_sem,simprocAttr] <;> rfl) (by simp only [go_sem,simprocAttr] <;> rfl) ?h0 ?hkI ?hkS ?hSn ?round ?done ?stop)
 case hps=>exact fun x hx=>by cases hx
 case h0=>rfl
 case hkI=>rintro k R rfl;simp [Hg,findKey]
 case hkS=>exact fun _ _ h=>h.elim
 case hSn=>exact fun _ h=>h
 case stop=>exact fun _ _ h=>h.elim
 case round =>
  rintro k x R l hx rfl;simp at hx
 case done =>
  rintro R rfl;simp only [go_sem,simprocAttr];refine ⟨⟨Ba 24 [(3,.ptr 3 0 0)],[(3,.var 35 [.p (.sl [])])]⟩,Jqb,?_⟩;simp only [go_sem,simprocAttr]
def Jrg (l:List (Int×Node)):List (List PV):=l.map fun a=>[.int .i64 a.1,.int .i64 a.2.kind,.int .i64 a.2.many,.str a.2.name,.str a.2.s,.bool a.2.neg,.int .i64 a.2.e]
def Jq8 (l:List RKT):List (Int×Node):=l.map fun p=>(p.2.n,p.2.c)
@[simp] theorem Jqx (l:List (Int×Node)):(Jrg l).length=l.length:=by simp [Jrg]
theorem Jvq {l:List (Int×Node)} {i:Nat} {a:Int×Node} (h:l[i]? = some a):(Jrg l)[i]? = some [.int .i64 a.1,.int .i64 a.2.kind,.int .i64 a.2.many,.str a.2.name,.str a.2.s,.bool a.2.neg,.int .i64 a.2.e]:=by simp [Jrg,h]
theorem J0a {l:List (Int×Node)} {i:Nat} {a:Int×Node} (h:l[i]? = some a):Jrg (l.take (i+1))=Jrg (l.take i) ++ [[.int .i64 a.1,.int .i64 a.2.kind,.int .i64 a.2.many,.str a.2.name,.str a.2.s,.bool a.2.neg,.int .i64 a.2.e]]:=by
 rw [List.take_add_one,h];simp [Jrg]
def J2e (l:List RKT):Prop:=∀ p∈l,p.2.kids=.nil
theorem J0g:∀ {f:RF},J2e f.list→f.enc.length=f.len
 | .nil,_=>by rw [Jq2];rfl
 | .cons nm (.mk k s n c kids) r,h=>by
  have h1:kids=.nil:=h _ List.mem_cons_self;subst h1;have h2:=J0g (f:=r) fun p hp=>h p (List.mem_cons_of_mem _ hp)
  rw [Jqg,Jqo,Jq2,List.length_append,h2,Jr3];simp;omega
theorem Jzl:∀ {f:RF} {i:Nat} {p:RKT},J2e f.list→f.list[i]? = some p→f.enc[i]? = some ⟨p.2.kind,0,p.1,p.2.s,p.2.n,p.2.c⟩
 | .nil,i,p,_,h=>by simp [RF.list] at h
 | .cons nm (.mk k s n c kids) r,i,p,h,hp=>by
  have h1:kids=.nil:=h _ List.mem_cons_self;subst h1;rw [Jqg,Jqo,Jq2];cases i with
  | zero =>
   simp only [RF.list,List.getElem?_cons_zero,Option.some.injEq] at hp;subst hp;rfl
  | succ i =>
   simp only [RF.list,List.getElem?_cons_succ] at hp;have:=Jzl (f:=r) (fun p hp=>h p (List.mem_cons_of_mem _ hp)) hp;simpa using this
theorem J6l (nm:List UInt8) (kd:Int) (s:List UInt8) (g:Int) (e:Node) (kids:RF) (hv:kids.enc.length≤999999) (hk:J2e kids.list):Det cx 129 [.p (.sl (rowL ((RT.mk kd s g e kids).enc nm))),.p (.int .i64 0)] [] (.p (.sl (Jrg (Jq8 kids.list)))) []:=by
 have hll:=Jrc kids;have hel:=J0g hk;generalize hvv:(RT.mk kd s g e kids).enc nm=v;have h0:v.drop 0=⟨kd,kids.len,nm,s,g,e⟩ :: kids.enc:=by rw [← hvv,Jqo];rfl
 have hg0:=Jsa h0;rw [Jq9] at hg0;have hvl:v.length=kids.enc.length+1:=by rw [← hvv,Jqo];rfl
 have hd:((rowL v).drop 1).take (1+kids.len - 1)=rowL kids.enc:=by
  rw [← hvv,Jqo,Jua,List.drop_succ_cons,List.drop_zero,List.take_of_length_le (by rw [Jqi];omega)]
 have hal:(Jq8 kids.list).length=kids.len:=by simp [Jq8,hll]
 have w1:IntKind.i64.wrap (1+(kids.len:Int))=((1+kids.len:Nat):Int):=by rw [Aa omg omg];omega
 have w0:IntKind.i64.wrap 1=1:=by decide
 have w2:(((1+kids.len:Nat):Int)).toNat=1+kids.len:=Int.toNat_natCast _;(refine bgo Tryz.func129 ?_;simp only [go_sem,simprocAttr,hg0,hd,Jqi,w0,w1,w2,hel]);(repeat' (first | (refine And.intro (Jun _) ?_)|(refine Jqe ?_) | fail));refine SWP.loop (fun i:Nat=>if i=0 then ⟨Ba 35 [(5,.p .snil),(19,.p (.sl (rowL kids.enc))),(20,.p (.int .i64 kids.len)),(21,.p (.int .i64 0))],[]⟩ else ⟨Ba 35 [(5,.own 32 0 i),(19,.p (.sl (rowL kids.enc))),(20,.p (.int .i64 kids.len)),(21,.p (.int .i64 i))],[(32,.row 118 7 (Jrg ((Jq8 kids.list).take i)))]⟩) (fun i=>i≤kids.len) (fun i=>kids.len - i) 0 (by rw [if_pos rfl];exact Jqb) (Nat.zero_le _) ?_;rintro i hi;by_cases hlt:¬ i<kids.len
 ·have hi2:i=kids.len:=by omega
  subst hi2;by_cases hz:kids.len=0
  ·rw [if_pos hz];have hk0:Jq8 kids.list=[]:=List.eq_nil_of_length_eq_zero omg;rw [hk0,hz];refine Jq0 (show St.Le _ ⟨Ba 35 [(5,.p (.sl [])),(20,.p (.int .i64 0)),(21,.p (.int .i64 0))],[]⟩ from Jqb) ?_;(refine lws ?_;simp only [go_sem,simprocAttr]);rfl
  ·rw [if_neg hz];have c1:((kids.len:Int)<(kids.len:Int))=False:=eq_false omg;have hpl:(kids.len≤(Jq8 kids.list).length)=True:=eq_true omg;have ht1:(Jq8 kids.list).take kids.len=Jq8 kids.list:=List.take_of_length_le omg;have ht2:(Jrg (Jq8 kids.list)).take kids.len=Jrg (Jq8 kids.list):=List.take_of_length_le (by rw [Jqx];omega);(refine lws ?_;simp only [go_sem,simprocAttr,c1,hpl,ht1,ht2,Jqx])
   skip
 ·have hlt:=Decidable.not_not.1 hlt;obtain ⟨p,hp⟩:∃ p,kids.list[i]? = some p:=⟨_,List.getElem?_eq_getElem omg⟩
  have hgi:=rowL_at (Jzl hk hp);rw [Jq9] at hgi;have hga:(Jq8 kids.list)[i]? = some (p.2.n,p.2.c):=by simp [Jq8,hp]
  have htk:=J0a hga;have hpl:(Jrg ((Jq8 kids.list).take i)).length=i:=by rw [Jqx,List.length_take];omega
  have c1:((i:Int)<(kids.len:Int))=True:=eq_true omg;by_cases hz:i=0
  ·subst hz;rw [if_pos rfl];have c2:((0:Int)<(kids.len:Int))=True:=eq_true omg;have hgi':(rowL kids.enc)[0]? = _:=hgi;(refine lws ?_;simp only [go_sem,simprocAttr,w0,c2,hgi',w0]);refine ⟨by simp,1,by omega,by omega,?_⟩;rw [htk,if_neg omg,show Jrg (List.take 0 (Jq8 kids.list))=[] from rfl,List.nil_append];exact Jqb
  ·rw [if_neg hz];(refine lws ?_;simp only [go_sem,simprocAttr,c1,hgi,hpl,wj1 (i:=i) omg]);refine ⟨by simp,by omega,by omega,i+1,by omega,by omega,?_⟩;rw [htk,if_neg omg];exact Jqb
theorem J9c (nm:List UInt8) (s:List UInt8) (g:Int) (e:Node) (kids:RF) (hv:kids.enc.length≤999999) (hk:J2e kids.list):Det cx 51 [.p (.sl (rowL ((RT.mk 1 s g e kids).enc nm)))] [] (.p (.sl (Jrg (Jq8 kids.list)))) []:=by
 have h0:((RT.mk 1 s g e kids).enc nm).drop 0=⟨1,kids.len,nm,s,g,e⟩ :: kids.enc:=by rw [Jqo];rfl
 have hg0:=Jsa h0;rw [Jq9] at hg0;(refine bgo Tryz.func51 ?_;simp only [go_sem,simprocAttr,hg0]);(repeat' (first | ((refine Jqa (J6l nm 1 s g e kids hv hk) ?_);simp only [go_sem,simprocAttr]) | fail))
end Go.LX
namespace Go.LX
def Jqy (s:List UInt8):List UInt8:=s.dropWhile (· == 48)
def Jr9 (s:List UInt8):List UInt8:=(s.reverse.dropWhile (· == 48)).reverse
theorem Juv {c:UInt8}:c.toNat=48 ↔ c=48:=by
 constructor
 ·intro h;exact UInt8.toNat_inj.1 (by simpa using h)
 ·intro h;subst h;rfl
theorem Jy0 (c:UInt8) (l:List UInt8):at_ (c :: l) 0=c.toNat:=by simp [at_]
theorem J22 (l:List UInt8) (c:UInt8):at_ (l ++ [c]) l.length=c.toNat:=by simp [at_,List.getD_eq_getElem?_getD]
theorem J4p {u:List UInt8} (h0:0<u.length) (h:at_ u 0=48):Jqy (u.drop 1)=Jqy u:=by
 cases u with
 | nil=>simp at h0
 | cons c l =>
  rw [Jy0,Juv] at h;subst h;simp [Jqy]
theorem Jyl {u:List UInt8} (h:at_ u 0≠48):Jqy u=u:=by
 cases u with
 | nil=>rfl
 | cons c l =>
  rw [Jy0] at h;have:c≠48:=fun hc=>h (Juv.2 hc)
  simp [Jqy,List.dropWhile_cons,this]
theorem J3v {u:List UInt8} (h:u.length=0):Jqy u=u:=by
 cases u with
 | nil=>rfl
 | cons c l=>simp at h
theorem Jz0 (u:List UInt8):(Jqy u).length≤u.length:=by
 exact (List.dropWhile_sublist _).length_le
theorem Jyn (u:List UInt8) (h:0<(Jqy u).length):at_ (Jqy u) 0≠48:=by
 induction u with
 | nil=>simp [Jqy] at h
 | cons c l ih =>
  by_cases hc:c=48
  ·subst hc;have:Jqy (48 :: l)=Jqy l:=by simp [Jqy]
   rw [this] at h ⊢;exact ih h
  ·have:Jqy (c :: l)=c :: l:=by simp [Jqy,List.dropWhile_cons,hc]
   rw [this,Jy0];exact fun hh=>hc (Juv.1 hh)
theorem J2y {u:List UInt8} (h:0<u.length):∃ l c,u=l ++ [c]:=by
 have hne:u≠[]:=by intro hu;subst hu;simp at h
 exact ⟨u.dropLast,u.getLast hne,(List.dropLast_concat_getLast hne).symm⟩
theorem Jym (l:List UInt8) (c:UInt8):Jr9 (l ++ [c])=if c=48 then Jr9 l else l ++ [c]:=by
 simp only [Jr9,List.reverse_append,List.reverse_cons,List.reverse_nil,List.nil_append,List.cons_append,List.dropWhile_cons];by_cases h:c=48
 ·simp [h]
 ·simp [h]
theorem Ju4 {u:List UInt8} (h0:0<u.length) (h:at_ u (u.length - 1)=48):Jr9 (u.take (u.length - 1))=Jr9 u:=by
 obtain ⟨l,c,rfl⟩:=J2y h0;have e:(l ++ [c]).length - 1=l.length:=by simp
 rw [e] at h ⊢;rw [J22,Juv] at h;rw [Jym,if_pos h];simp
theorem Jt6 {u:List UInt8} (h0:0<u.length) (h:at_ u (u.length - 1)≠48):Jr9 u=u:=by
 obtain ⟨l,c,rfl⟩:=J2y h0;have e:(l ++ [c]).length - 1=l.length:=by simp
 rw [e,J22] at h;rw [Jym,if_neg (fun hc=>h (Juv.2 hc))]
theorem Jzv (u:List UInt8):(Jr9 u).length≤u.length:=by
 have:=(List.dropWhile_sublist (l:=u.reverse) (fun x=>x == 48)).length_le;simpa [Jr9] using this
theorem J16 {u:List UInt8} {n i:Nat} (h:i<n):at_ (u.take n) i=at_ u i:=by
 simp [at_,List.getD_eq_getElem?_getD,List.getElem?_take,h]
theorem J0z:∀ (n:Nat) (u:List UInt8),u.length=n→0<u.length→at_ u 0≠48→0<(Jr9 u).length
 | 0,u,hn,h0,_=>by omega
 | n+1,u,hn,h0,h=>by
  by_cases hl:at_ u (u.length - 1)=48
  ·have hn0:1<u.length:=by
    by_cases h1:u.length=1
    ·rw [h1] at hl;exact absurd hl h
    ·omega
   rw [← Ju4 h0 hl];exact J0z n _ (by simp;omega) (by simp;omega) (by rw [J16 omg];exact h)
  ·rw [Jt6 h0 hl];exact h0
theorem trim_eq {s:List UInt8} (h0:0<s.length):Jqy (Jr9 s)=s ↔ at_ s 0≠48∧at_ s (s.length - 1)≠48:=by
 constructor
 ·intro h;have hl:at_ s (s.length - 1)≠48:=by
   intro hc;have h1:=Jz0 (Jr9 s);rw [h,← Ju4 h0 hc] at h1;have h2:=Jzv (s.take (s.length - 1));simp only [List.length_take] at h2;omega
  rw [Jt6 h0 hl] at h;have:=Jyn s (by rw [h];exact h0);rw [h] at this;exact ⟨this,hl⟩
 ·rintro ⟨h1,h2⟩;rw [Jt6 h0 h2,Jyl h1]
end Go.LX
namespace Go.LX
open Go Go.RowKit Go.Proofs Go.Lib
def J5i (c:UInt8):Bool:=decide (48≤c.toNat) && decide (c.toNat≤57)
def Jqp (s:List UInt8):Bool:=s.all J5i
def figR (r:Nat):Bool:=decide (48≤r) && decide (r≤57)
theorem Jzx {n b0 b1 b2 b3:Nat} (h:128≤b0):128≤(decodeN n b0 b1 b2 b3).1:=by
 unfold decodeN
 repeat' split
 all_goals first | omega | (simp_all;done)|(simp_all;omega)
theorem J41 {s:ByteArray} {pos:Nat} (h:figR (Utf8.decode s pos).1=true):figR (s.data.toList.getD pos 0).toNat=true∧(Utf8.decode s pos).2=1:=by
 rw [decode_N] at h ⊢;by_cases hb:(s.data.toList.getD pos 0).toNat<128
 ·rw [decodeN_ascii _ _ _ _ _ hb] at h ⊢;exact ⟨h,rfl⟩
 ·have:=Jzx (n:=s.data.toList.length - pos) (b1:=(s.data.toList.getD (pos+1) 0).toNat) (b2:=(s.data.toList.getD (pos+2) 0).toNat) (b3:=(s.data.toList.getD (pos+3) 0).toNat) (by omega:128≤(s.data.toList.getD pos 0).toNat);simp only [figR,Bool.and_eq_true,decide_eq_true_eq] at h;omega
theorem J5m {s:ByteArray} {pos:Nat} (h:figR (s.data.toList.getD pos 0).toNat=true):Utf8.decode s pos=((s.data.toList.getD pos 0).toNat,1):=by
 rw [decode_N,decodeN_ascii];simp only [figR,Bool.and_eq_true,decide_eq_true_eq] at h;omega
theorem J3p {s:ByteArray}:∀ (f pos:Nat),s.size≤pos+f→idxFuncFrom figR false s f pos = -1→∀ j,pos≤j→j<s.size→figR (s.data.toList.getD j 0).toNat=true
 | 0,pos,hf,_,j,h1,h2=>by omega
 | f+1,pos,hf,h,j,h1,h2=>by
  unfold idxFuncFrom at h;rw [if_pos omg] at h;split at h
  ·omega
  ·rename_i hp;have hp':figR (Utf8.decode s pos).1=true:=by simpa using hp
   obtain ⟨g1,g2⟩:=J41 hp';by_cases hj:j=pos
   ·subst hj;exact g1
   ·rw [g2] at h;exact J3p f (pos+1) omg h j omg h2
theorem J4j {s:ByteArray}:∀ (f pos k:Nat),idxFuncFrom figR false s f pos=(k:Int)→k<s.size∧figR (s.data.toList.getD k 0).toNat=false
 | 0,pos,k,h=>by simp [idxFuncFrom] at h
 | f+1,pos,k,h=>by
  unfold idxFuncFrom at h;split at h
  ·rename_i hlt;split at h
   ·rename_i hp;have hk:pos=k:=by omega
    subst hk;refine ⟨hlt,?_⟩;cases hb:figR (s.data.toList.getD pos 0).toNat with
    | false=>rfl
    | true =>
     rw [J5m hb] at hp;simp only at hp;rw [hb] at hp;cases hp
   ·exact J4j f _ k h
  ·omega
theorem J0r {l:List UInt8} (hl:l≠[]) (h:figR (decodeLastL l).1=true):figR (l.getD (l.length - 1) 0).toNat=true∧(decodeLastL l).2=1:=by
 unfold decodeLastL at h ⊢;rw [if_neg hl] at h ⊢;split
 ·rename_i hb;rw [if_pos hb] at h;exact ⟨h,rfl⟩
 ·rename_i hb;rw [if_neg hb] at h;simp only at h;split at h
  ·rename_i hd;exfalso;have hlen:0<l.length:=List.length_pos_iff.2 hl;have hfig:(decodeL (l.drop (lastStart l))).1<128:=by simp [figR] at h;omega
   generalize hq:l.drop (lastStart l)=q at hfig hd;cases q with
   | nil =>
    have:=congrArg List.length hq;simp only [List.length_drop,List.length_nil] at this;rw [show (decodeL []).2=1 from by decide] at hd;omega
   | cons c r =>
    have hc:c.toNat<128:=by
     by_cases hc:c.toNat<128
     ·exact hc
     ·exfalso;simp only [decodeL] at hfig;rw [decode_N] at hfig;simp only [List.getD_cons_zero] at hfig;have:=fun n b1 b2 b3=>Jzx (n:=n) (b1:=b1) (b2:=b2) (b3:=b3) (by omega:128≤c.toNat)
      exact absurd hfig (Nat.not_lt.2 (this _ _ _ _))
    rw [decodeL_ascii c r hc] at hd;simp only at hd;have hlr:r=[]:=by
     have:=congrArg List.length hq;simp at this;exact List.eq_nil_of_length_eq_zero omg
    subst hlr;have e:l.getD (l.length - 1) 0=c:=by
     have h1:l[lastStart l]? = some c:=by
      have:=congrArg (fun x=>x[0]?) hq;simpa using this
     have h2:l.length - 1=lastStart l:=by omega
     rw [h2];simp [List.getD_eq_getElem?_getD,h1]
    rw [e] at hb;exact hb hc
  ·exfalso;simp [figR,Utf8.runeError] at h
theorem J2f {s:ByteArray}:∀ (f i:Nat),i≤f→i≤s.size→lastIdxFuncFrom figR false s f i = -1→∀ j,j<i→figR (s.data.toList.getD j 0).toNat=true
 | 0,i,hf,_,h,j,hj=>by omega
 | f+1,i,hf,hs,h,j,hj=>by
  unfold lastIdxFuncFrom at h;rw [if_pos omg] at h;split at h
  ·omega
  ·rename_i hp;have hsz:s.data.toList.length=s.size:=by simp
   have hl:(s.data.toList.take i).length=i:=by rw [List.length_take];omega
   have hp':figR (decodeLastL (s.data.toList.take i)).1=true:=by simpa using hp
   obtain ⟨g1,g2⟩:=J0r (by intro hn;rw [hn] at hl;simp at hl;omega) hp';rw [hl] at g1;rw [g2] at h;by_cases hji:j=i - 1
   ·subst hji;have:(s.data.toList.take i).getD (i - 1) 0=s.data.toList.getD (i - 1) 0:=by
     simp [List.getD_eq_getElem?_getD,List.getElem?_take,show i - 1<i by omega]
    rw [← this];exact g1
   ·exact J2f f (i - 1) omg omg h j omg
theorem Jyi {l:List UInt8}:Jqp l=true ↔ ∀ j,j<l.length→figR (l.getD j 0).toNat=true:=by
 simp only [Jqp,List.all_eq_true];constructor
 ·intro h j hj;have:=h l[j] (List.getElem_mem hj);simpa [List.getD_eq_getElem?_getD,hj,figR,J5i] using this
 ·intro h x hx;obtain ⟨j,hj,rfl⟩:=List.getElem_of_mem hx;simpa [List.getD_eq_getElem?_getD,hj,figR,J5i] using h j hj
theorem Jts (s:ByteArray):s.data.toList.length=s.size:=by simp
theorem J08 (s:ByteArray):((trimF figR s).data.toList == [])=Jqp s.data.toList:=by
 unfold trimF;by_cases hk:idxFunc figR false s = -1
 ·have h1:Jqp s.data.toList=true:=by
   rw [Jyi];intro j hj;rw [Jts] at hj;exact J3p s.size 0 omg hk j (Nat.zero_le _) hj
  rw [h1];unfold trimLeftF;rw [if_pos hk];unfold trimRightF;simp [ByteArray.data_extract]
 ·obtain ⟨k,hk2⟩:∃ k:Nat,idxFunc figR false s=k:=by
   rcases idxFunc_range figR false s with h | ⟨h,_⟩
   ·exact absurd h hk
   ·exact ⟨_,(Int.toNat_of_nonneg h).symm⟩
  obtain ⟨h1,h2⟩:=J4j _ _ _ hk2;have h3:Jqp s.data.toList=false:=by
   cases hf:Jqp s.data.toList with
   | false=>rfl
   | true =>
    rw [Jyi] at hf;rw [hf k (by rw [Jts];exact h1)] at h2;cases h2
  rw [h3];have ht:trimLeftF figR s=s.extract k s.size:=by
   unfold trimLeftF;rw [if_neg hk,hk2];simp
  rw [ht];generalize hte:s.extract k s.size=t;have htl:t.data.toList=s.data.toList.drop k:=by
   rw [← hte];simp [ByteArray.data_extract,Array.toList_extract];rw [List.take_of_length_le sm]
  have hts:t.size=s.size - k:=by rw [← Jts,htl,List.length_drop,Jts]
  have h0:figR (t.data.toList.getD 0 0).toNat=false:=by
   rw [htl];simpa [List.getD_eq_getElem?_getD,List.getElem?_drop] using h2
  have hlast:0≤lastIdxFunc figR false t:=by
   rcases lastIdxFuncFrom_range figR false t t.size t.size with h | ⟨h,_⟩
   ·have:=J2f t.size t.size (Nat.le_refl _) (Nat.le_refl _) h 0 omg;rw [h0] at this;cases this
   ·exact h
  have hpos:1≤rightEndF figR t:=by
   unfold rightEndF;rw [if_pos hlast];unfold decodeGoB;by_cases hz:(lastIdxFunc figR false t).toNat=0
   ·rw [hz];have hsz:(t.extract 0 t.size).size=t.size:=by simp
    rw [if_neg (by rw [hsz];omega)];have:=decodeN_ge1;rw [decode_N];have:=this ((t.extract 0 t.size).data.toList.length - 0) ((t.extract 0 t.size).data.toList.getD 0 0).toNat ((t.extract 0 t.size).data.toList.getD (0+1) 0).toNat ((t.extract 0 t.size).data.toList.getD (0+2) 0).toNat ((t.extract 0 t.size).data.toList.getD (0+3) 0).toNat;omega
   ·omega
  have:(trimRightF figR t).data.toList≠[]:=by
   intro hn;unfold trimRightF at hn;have e:(t.extract 0 (rightEndF figR t)).data.toList=t.data.toList.take (rightEndF figR t):=by simp [ByteArray.data_extract,Array.toList_extract]
   rw [e] at hn;have hl:=congrArg List.length hn;rw [List.length_take,Jts] at hl;simp only [List.length_nil] at hl;omega
  simpa using this
end Go.LX
namespace Go.LX
end Go.LX
namespace Go.LX
open Go Go.Proofs
abbrev Node.pv (n:Node):List PV:=n.cells
theorem Js3 (n:Node):n.pv=[.int .i64 n.kind,.int .i64 n.many,.str n.name,.str n.s,.bool n.neg,.int .i64 n.e]:=(rfl)
def Jy3 (many e:Int):Bool:=decide (-1000≤e) && decide (e≤1000) && decide (many+e≤1000)
theorem Jvk {m e:Int}:Jy3 m e=false ↔ e < -1000∨1000<e∨1000<m+e:=by
 simp only [Jy3];by_cases h1:-1000≤e <;> by_cases h2:e≤1000 <;> by_cases h3:m+e≤1000 <;> simp [h1,h2,h3] <;> omega
def Jrk (n:Node):Bool :=
 if ¬ n.kind=3 then false else if ¬ n.many=0 then false else if ¬ n.name.length=0 then false else if Jqp n.s=false then false else if 100<(n.s.length:Int) then false else
 if n.e < -1000 then false else if 1000<n.e then false else if 1000<(n.s.length:Int)+n.e then false else
 if n.s.length=0 then (if n.neg=false then n.e == 0 else false) else (if ¬ (at_ n.s 0:Int)=48 then ((at_ n.s (n.s.length - 1):Int) != 48) else false)
def cmpI (a b:Int):Int:=if a<b then -1 else if b<a then 1 else 0
def cmpS (a b:List UInt8):Int:=if Op.bytesLess a b=true then -1 else if (Op.bytesLess a b || a == b)=false then 1 else 0
def Jth:Node:=⟨0,0,[],[],false,0⟩
def make (neg:Bool) (s:List UInt8) (e:Int):Node×Int :=
 if Jqp s=false then (Jth,4) else
 if (Jqy s).length=0 then ({ Jth with kind:=3 },0) else
 if e < -100000000 then (Jth,2) else if 100000000<e then (Jth,2) else
 let t:=Jr9 (Jqy s);let e':=e+((Jqy s).length - t.length)
 if 100<(t.length:Int) then (Jth,2) else if e' < -1000 then (Jth,2) else if 1000<(t.length:Int)+e' then (Jth,2) else
 ({ Jth with kind:=3,s:=t,neg:=neg,e:=e' },0)
def Jvj (a b:Node):Int :=
 if a.s.length=0 then cmpI a.s.length b.s.length else if b.s.length=0 then cmpI a.s.length b.s.length else
 if ¬ cmpI (a.s.length+a.e) (b.s.length+b.e)=0 then cmpI (a.s.length+a.e) (b.s.length+b.e) else cmpS a.s b.s
def Juo (a b:Node):Int :=
 if a.neg=true∧b.neg=false then -1 else if b.neg=true∧a.neg=false then 1 else if a.neg=true then Jvj b a else Jvj a b
structure Node.small (n:Node):Prop where
 s:n.s.length≤1000000
 e1:-1000000≤n.e
 e2:n.e≤1000000
def Jsj (n:Node) (p:Int):Int :=
 let i:=(n.s.length:Int) - 1 - (p - n.e)
 if i<0 then 0 else if (n.s.length:Int)≤i then 0 else ((at_ n.s i.toNat:Int) - 48) % 256
def Jsv (f g:Int→Int) (side:Int):Nat→Int→Int
 | 0,_=>0
 | n+1,p=>if f p<g p then -side else if g p<f p then side else Jsv f g side n (p - 1)
def Jtf (a b:Node):Int :=
 let side:=if a.neg=true then -1 else 1
 if a.neg != b.neg then side else
 let top:=max ((a.s.length:Int)+a.e) (b.s.length+b.e)
 Jsv (Jsj a) (Jsj b) side (top - min a.e b.e+1).toNat top
def val (l:List UInt8):Int:=l.foldl (fun n c=>n * 10+((c.toNat:Int) - 48)) 0
end Go.LX
namespace Go.Proofs
open Go.Shelf
def Tryz_lays160_renX:Go.Shelf.Ren:=⟨fun | 160=>321 | 232=>275 | 231=>271 | 227=>272 | 234=>276 | 233=>273 | 236=>277 | 235=>274 | 228=>308 | 271=>310 | 151=>309 | 197=>253 | 120=>343 | 152=>342 | 260=>290 | 137=>215 | 119=>358 | 224=>359 | 225=>360 | 217=>261 | 266=>295 | n=>n,fun | 9=>9 | 4=>4 | 3=>3 | 5=>5 | 117=>245 | 116=>244 | 0=>0 | 124=>248 | 21=>21 | 105=>222 | 46=>238 | 119=>234 | 139=>237 | 138=>236 | n=>n,fun | 3=>0 | 4=>1 | n=>n⟩
theorem J1h:Go.Proofs.Lays.n160 Tryz.prog Tryz_lays160_renX:={
 mixed:=by kernel_rfl
 f119:=Tryz.func358.trans (congrArg some (by kernel_rfl))
 f120:=Tryz.func343.trans (congrArg some (by kernel_rfl))
 f137:=Tryz.func215.trans (congrArg some (by kernel_rfl))
 f151:=Tryz.func309.trans (congrArg some (by kernel_rfl))
 f152:=Tryz.func342.trans (congrArg some (by kernel_rfl))
 f160:=Tryz.func321.trans (congrArg some (by kernel_rfl))
 f197:=Tryz.func253.trans (congrArg some (by kernel_rfl))
 f217:=Tryz.func261.trans (congrArg some (by kernel_rfl))
 f224:=Tryz.func359.trans (congrArg some (by kernel_rfl))
 f225:=Tryz.func360.trans (congrArg some (by kernel_rfl))
 f227:=Tryz.func272.trans (congrArg some (by kernel_rfl))
 f228:=Tryz.func308.trans (congrArg some (by kernel_rfl))
 f231:=Tryz.func271.trans (congrArg some (by kernel_rfl))
 f232:=Tryz.func275.trans (congrArg some (by kernel_rfl))
 f233:=Tryz.func273.trans (congrArg some (by kernel_rfl))
 f234:=Tryz.func276.trans (congrArg some (by kernel_rfl))
 f235:=Tryz.func274.trans (congrArg some (by kernel_rfl))
 f236:=Tryz.func277.trans (congrArg some (by kernel_rfl))
 f260:=Tryz.func290.trans (congrArg some (by kernel_rfl))
 f266:=Tryz.func295.trans (congrArg some (by kernel_rfl))
 f271:=Tryz.func310.trans (congrArg some (by kernel_rfl))
 t0:=Tryz.underlying0
 a0:=Tryz.isAgg0
 z0:=Tryz.sizeOf0
 v0:=Tryz.zeroValue0
 t3:=Tryz.underlying3
 a3:=Tryz.isAgg3
 z3:=Tryz.sizeOf3
 v3:=Tryz.zeroValue3
 t4:=Tryz.underlying4
 a4:=Tryz.isAgg4
 z4:=Tryz.sizeOf4
 v4:=Tryz.zeroValue4
 t5:=Tryz.underlying5
 a5:=Tryz.isAgg5
 z5:=Tryz.sizeOf5
 v5:=Tryz.zeroValue5
 t9:=Tryz.underlying9
 a9:=Tryz.isAgg9
 z9:=Tryz.sizeOf9
 v9:=Tryz.zeroValue9
 t21:=Tryz.underlying21
 a21:=Tryz.isAgg21
 z21:=Tryz.sizeOf21
 v21:=Tryz.zeroValue21
 t46:=Tryz.underlying238
 a46:=Tryz.isAgg238
 z46:=Tryz.sizeOf238
 v46:=Tryz.zeroValue238
 t105:=Tryz.underlying222
 a105:=Tryz.isAgg222
 z105:=Tryz.sizeOf222
 v105:=Tryz.zeroValue222
 t116:=Tryz.underlying244
 a116:=Tryz.isAgg244
 z116:=Tryz.sizeOf244
 t117:=Tryz.underlying245
 a117:=Tryz.isAgg245
 z117:=Tryz.sizeOf245
 v117:=Tryz.zeroValue245
 t119:=Tryz.underlying234
 a119:=Tryz.isAgg234
 z119:=Tryz.sizeOf234
 t124:=Tryz.underlying248
 a124:=Tryz.isAgg248
 z124:=Tryz.sizeOf248
 v124:=Tryz.zeroValue248
 t138:=Tryz.underlying236
 a138:=Tryz.isAgg236
 z138:=Tryz.sizeOf236
 v138:=Tryz.zeroValue236
 t139:=Tryz.underlying237
 a139:=Tryz.isAgg237
 z139:=Tryz.sizeOf237
 v139:=Tryz.zeroValue237
 g3:=by kernel_rfl
 g4:=by kernel_rfl }
open Go.RowKit in
theorem Tryz.strings_Trim_one (s:ByteArray) (c:UInt8) (hc:c.toNat<128) (w:World) (hs:s.size≤9223372036854775807) :
  Calls Tryz.prog 321 #[.string s,.string ⟨#[c]⟩] w fun e w'=>e=.returned (.string ⟨(Lib.trimB s.data.toList c).toArray⟩)∧(w'=w∨w'=w.drew):=Any.strings_Trim_one J1h s c hc w hs
def Tryz_lays237_renX:Go.Shelf.Ren:=⟨fun | 237=>269 | 272=>307 | 238=>306 | 315=>341 | 273=>340 | 197=>253 | 271=>310 | 260=>290 | 120=>343 | n=>n,fun | 9=>9 | 40=>241 | 4=>4 | 3=>3 | 105=>222 | 21=>21 | 0=>0 | 5=>5 | 119=>234 | 46=>238 | 139=>237 | 138=>236 | n=>n,fun | 3=>0 | 4=>1 | n=>n⟩
theorem J1a:Go.Proofs.Lays.n237 Tryz.prog Tryz_lays237_renX:={
 mixed:=by kernel_rfl
 f120:=Tryz.func343.trans (congrArg some (by kernel_rfl))
 f197:=Tryz.func253.trans (congrArg some (by kernel_rfl))
 f237:=Tryz.func269.trans (congrArg some (by kernel_rfl))
 f238:=Tryz.func306.trans (congrArg some (by kernel_rfl))
 f260:=Tryz.func290.trans (congrArg some (by kernel_rfl))
 f271:=Tryz.func310.trans (congrArg some (by kernel_rfl))
 f272:=Tryz.func307.trans (congrArg some (by kernel_rfl))
 f273:=Tryz.func340.trans (congrArg some (by kernel_rfl))
 f315:=Tryz.func341.trans (congrArg some (by kernel_rfl))
 t0:=Tryz.underlying0
 a0:=Tryz.isAgg0
 z0:=Tryz.sizeOf0
 v0:=Tryz.zeroValue0
 t3:=Tryz.underlying3
 a3:=Tryz.isAgg3
 z3:=Tryz.sizeOf3
 v3:=Tryz.zeroValue3
 t4:=Tryz.underlying4
 a4:=Tryz.isAgg4
 z4:=Tryz.sizeOf4
 v4:=Tryz.zeroValue4
 t5:=Tryz.underlying5
 a5:=Tryz.isAgg5
 z5:=Tryz.sizeOf5
 v5:=Tryz.zeroValue5
 t9:=Tryz.underlying9
 a9:=Tryz.isAgg9
 z9:=Tryz.sizeOf9
 v9:=Tryz.zeroValue9
 t21:=Tryz.underlying21
 a21:=Tryz.isAgg21
 z21:=Tryz.sizeOf21
 v21:=Tryz.zeroValue21
 t40:=Tryz.underlying241
 a40:=Tryz.isAgg241
 z40:=Tryz.sizeOf241
 v40:=Tryz.zeroValue241
 t46:=Tryz.underlying238
 a46:=Tryz.isAgg238
 z46:=Tryz.sizeOf238
 v46:=Tryz.zeroValue238
 t105:=Tryz.underlying222
 a105:=Tryz.isAgg222
 z105:=Tryz.sizeOf222
 v105:=Tryz.zeroValue222
 t119:=Tryz.underlying234
 a119:=Tryz.isAgg234
 z119:=Tryz.sizeOf234
 t138:=Tryz.underlying236
 a138:=Tryz.isAgg236
 z138:=Tryz.sizeOf236
 v138:=Tryz.zeroValue236
 t139:=Tryz.underlying237
 a139:=Tryz.isAgg237
 z139:=Tryz.sizeOf237
 v139:=Tryz.zeroValue237
 g3:=by kernel_rfl
 g4:=by kernel_rfl }
open Go.RowKit Go.Lib in
theorem Tryz.strings_TrimFunc_grows (g:Nat) (lb:Array Value) (eg:∀ args w,(callFunc g args).run Tryz.prog w=.ok (.enter g args) w) (p:Nat→Bool) (s:ByteArray) (w:World) (hs:s.size≤9223372036854775807) (hT:Lib.Utf8Tabs 0 1 w) (hp:PredGrows Tryz.prog g lb p w) :
  Calls Tryz.prog 269 #[.string s,.func (.func g) #[] lb] w fun e w'=>e=.returned (.string (Lib.trimF p s))∧Below w.heap.size w w':=Any.strings_TrimFunc_grows J1a g lb eg p s w hs hT hp
end Go.Proofs
set_option maxRecDepth 100000
set_option maxHeartbeats 2000000
namespace Go.LX
open Go Go.RowKit Go.Proofs
attribute [local irreducible] Al SWP Bi
theorem J8k (m e:Int) (hm1:0≤m) (hm2:m≤1000000):Det cx 226 [.p (.int .i64 m),.p (.int .i64 e)] [] (.p (.bool (Jy3 m e))) []:=by
 (refine bgo Tryz.func226 ?_;simp only [go_sem,simprocAttr])
 (repeat' (first | (split) | fail)) <;> simp (disch:=omega) [Jy3,Aa, *] <;> omega
theorem J4f (c:Nat):Det cx 270 [.p (.int .i32 c)] [] (.p (.bool (decide (48≤c) && decide (c≤57)))) []:=by
 (refine bgo Tryz.func270 ?_;simp only [go_sem,simprocAttr])
 (repeat' (first | (split) | fail)) <;> (rw [Bool.eq_iff_iff];first | omega | (simp [-List.length_eq_zero_iff,Ac, *];done)|(simp [-List.length_eq_zero_iff,Ac, *];omega))
theorem J8o (s:List UInt8) (hs:s.length≤9223372036854775807):Det cx 240 [.p (.str s)] [] (.p (.bool (Jqp s))) []:=Jj5 s hs
theorem J4t (a:Int):Det cx 235 [.p (.int .i64 a)] [] (.p (.bool false)) []:=by
 (refine bgo Tryz.func235 ?_;simp only [go_sem,simprocAttr])
theorem J5b (a:List UInt8):Det cx 237 [.p (.str a)] [] (.p (.bool false)) []:=by
 (refine bgo Tryz.func237 ?_;simp only [go_sem,simprocAttr])
theorem Jwa (a b:Int):Det cx 183 [.p (.int .i64 a),.p (.int .i64 b)] [] (.p (.int .i64 (cmpI a b))) []:=by
 (refine bgo Tryz.func183 ?_;simp only [go_sem,simprocAttr]);(repeat' (first | (apply iteI <;> intro h)|((refine Jqa (J4t _) ?_);simp only [go_sem,simprocAttr]) | fail))
 all_goals simp [cmpI, *]
theorem J6j (a b:List UInt8):Det cx 185 [.p (.str a),.p (.str b)] [] (.p (.int .i64 (cmpS a b))) []:=by
 (refine bgo Tryz.func185 ?_;simp only [go_sem,simprocAttr]);(repeat' (first | (apply iteI <;> intro h)|((refine Jqa (J5b _) ?_);simp only [go_sem,simprocAttr]) | fail))
 all_goals simp_all [cmpS]
theorem nm_eta (x:ByteArray):(⟨⟨x.data.toList⟩⟩:ByteArray)=x:=by rcases x with ⟨⟨l⟩⟩;rfl
theorem J6k (s:List UInt8) (hs:s.length≤9223372036854775807):Det cx 269 [.p (.str s),.fn 270 []] [] (.p (.str (Lib.trimF figR ⟨⟨s⟩⟩).data.toList)) []:=by
 have he:Enters cx.P 270:=enters_of Tryz.func270 krf rfl;refine Jrl (v:=.string (Lib.trimF figR ⟨⟨s⟩⟩)) (enters_of Tryz.func269 krf rfl) rfl (fun β w Im=>?_) fun β Im w vs hg hf=>?_
 ·have:=PRep.str (w:=w) (Im:=Im) (Lib.trimF figR ⟨⟨s⟩⟩).data.toList;rw [nm_eta] at this;exact this
 ·obtain ⟨v,u,rfl,h1,h2⟩:=fit2 hf;cases Ks h1;cases rep_fn0 h2;refine Tryz.strings_TrimFunc_grows 270 #[] he figR ⟨⟨s⟩⟩ w hs (Jbj hg).tabs fun W x hx hb=>?_
  have hi:∀ b,Im b→b<W.heap.size:=fun b hb'=>Nat.lt_of_lt_of_le (hf.im b hb') hb.size
  exact (J4f x).calls_below (w:=W) (Im:=Im) (cx.mono ⟨fun _ h=>h,fun b hb'=>hb.block b (hf.im b hb')⟩ hg) hi (vs:=[.int .i32 x]) rfl
   (fun i v a hv ha=>by cases i with | zero=>simp at hv ha;subst hv;subst ha;exact PRep.int _ _ | succ i=>simp at hv) (fun β w' Im' u hu=>Na hu)
theorem J4e (s:List UInt8) (hs:s.length≤9223372036854775807):Det cx 223 [.p (.str s)] [] (.p (.bool (Jqp s))) []:=by
 (refine bgo Tryz.func223 ?_;simp only [go_sem,simprocAttr]);(repeat' (first | ((refine Jqa (J6k s hs) ?_);simp only [go_sem,simprocAttr]) | fail));exact J08 ⟨⟨s⟩⟩
theorem d_Trim (s:List UInt8) (hs:s.length≤9223372036854775807):Det cx 321 [.p (.str s),.p (.str [48])] [] (.p (.str (Jqy (Jr9 s)))) []:=by
 refine Jrl (v:=.string ⟨⟨Jqy (Jr9 s)⟩⟩) (enters_of Tryz.func321 krf rfl) rfl (fun β w Im=>PRep.str _) fun β Im w vs hg hf=>?_
 obtain ⟨v,u,rfl,h1,h2⟩:=fit2 hf;cases Ks h1;cases Ks h2;refine (Tryz.strings_Trim_one ⟨⟨s⟩⟩ 48 de w hs).mono fun e w' ⟨h,hw⟩=>⟨h,?_⟩
 rcases hw with rfl | rfl
 ·exact Below.refl _ _
 ·exact (Below.refl _ _).drew
theorem J7p (neg:Bool) (s:List UInt8) (e:Int) (hs:s.length≤1000000) :
  Det cx 320 [.p (.bool neg),.p (.str s),.p (.int .i64 e)] [] (.tup [.agg (make neg s e).1.pv,.int .i64 (make neg s e).2]) []:=by
 (refine bgo Tryz.func320 ?_;simp only [go_sem,simprocAttr]);(repeat' (first | (apply iteI <;> intro h)|((refine Jqa (J8o _ omg) ?_);simp only [go_sem,simprocAttr]) | fail))
 ·simp [make, *,Jth,Js3]
 refine Jze (fun u:List UInt8=>⟨Ba 64 [(0,.p (.bool neg)),(1,.p (.str u)),(2,.p (.int .i64 e)),(6,.ptr 6 0 0)],[(6,.var 29 [.junk,.junk,.junk,.junk,.junk,.junk])]⟩)
  (fun u=>Jqy u=Jqy s∧u.length≤s.length) (fun u=>u.length) s 0
  (fun u:List UInt8=>⟨Ba 64 [(0,.p (.bool neg)),(1,.p (.str u)),(2,.p (.int .i64 e)),(6,.ptr 6 0 0)],[(6,.var 29 [.junk,.junk,.junk,.junk,.junk,.junk])]⟩)
  (fun u=>u=Jqy s) Jqb ⟨rfl,by omega⟩ ?_ ?_
 ·rintro u ⟨h1,h2⟩;(refine lws ?_;simp only [go_sem,simprocAttr]);(repeat' (first | (apply iteI <;> intro h)|(refine Jqe ?_) | fail))
  ·exact ⟨u.drop 1,⟨(J4p omg omg).trans h1,by simp;omega⟩,by simp;omega,Jqb⟩
  ·exact ⟨u,by rw [← h1,Jyl omg],Jqb⟩
  ·exact ⟨u,by rw [← h1,J3v omg],Jqb⟩
 ·rintro u rfl;have hl:(Jqy s).length≤s.length:=Jz0 s;simp only [go_sem,simprocAttr];(repeat' (apply iteI <;> intro h))
  ·simp [make, *,Jth,Js3]
  ·simp [make, *,Jth,Js3]
  ·simp [make, *,Jth,Js3]
  have hd:=Jyn s omg;have hp:=J0z _ _ rfl omg hd;have hr:=Jzv (Jqy s);refine Jze (fun u:List UInt8=>⟨Ba 64 [(0,.p (.bool neg)),(1,.p (.str u)),(2,.p (.int .i64 (e+((Jqy s).length - u.length)))),(6,.ptr 6 0 0)],[(6,.var 29 [.junk,.junk,.junk,.junk,.junk,.junk])]⟩)
   (fun u=>Jr9 u=Jr9 (Jqy s)∧u.length≤(Jqy s).length∧0<u.length∧at_ u 0≠48) (fun u=>u.length) (Jqy s) 2
   (fun u:List UInt8=>⟨Ba 64 [(0,.p (.bool neg)),(1,.p (.str u)),(2,.p (.int .i64 (e+((Jqy s).length - u.length)))),(6,.ptr 6 0 0)],[(6,.var 29 [.junk,.junk,.junk,.junk,.junk,.junk])]⟩)
   (fun u=>u=Jr9 (Jqy s)) Jqb ⟨rfl,by omega,by omega,hd⟩ ?_ ?_
  ·rintro u ⟨h1,h2,h3,h4⟩;(refine lws ?_;simp only [go_sem,simprocAttr]);(repeat' (first | (apply iteI <;> intro h)|(refine Jqe ?_) | fail))
   all_goals (try simp (disch:=omega) only [Aa,Qs,Ab,Jlh,Mf,Ja0,Jcc,Ja7,Jak] at *)
   ·exact ⟨u.take (u.length - 1),⟨(Ju4 h3 omg).trans h1,by simp;omega,by
     have:u.length≠1:=by intro h;simp [h] at *;omega
     simp;omega,by rw [J16 (by have:u.length≠1:=(by intro h;simp [h] at *;omega);omega)];exact h4⟩,by simp;omega,Jqb⟩
   ·exact ⟨u,by rw [← h1,Jt6 h3 omg],Jqb⟩
  ·rintro u rfl;simp only [go_sem,simprocAttr];(repeat' (apply iteI <;> intro h))
   all_goals (try simp (disch:=omega) only [Aa,Qs,Ab,Jlh,Mf,Ja0,Jcc,Ja7,Jak] at *)
   all_goals simp [make, *,Jth,Js3]
theorem J5t (n:Node) (hs:n.s.length≤1000000):Det cx 288 [.p (.agg n.pv)] [] (.p (.bool (Jrk n))) []:=by
 (refine bgo Tryz.func288 ?_;simp only [go_sem,simprocAttr,Js3]);(repeat' (first | (apply iteI <;> intro h)|((first | (refine Jqk ?_)|(refine Jqa (J4e _ omg) ?_)|(refine Jqa (J8k _ _ omg omg) ?_)|(refine Jqd (d_Trim _ omg) ?_));simp only [go_sem,simprocAttr]) | fail))
 all_goals (try simp (disch:=omega) only [Aa,Qs,Ab,Jlh,Mf,Ja0,Jcc,Ja7,Jak] at *)
 ·simp [-List.length_eq_zero_iff,Ac,Jrk, *]
 ·simp [-List.length_eq_zero_iff,Ac,Jrk, *]
 ·simp [-List.length_eq_zero_iff,Ac,Jrk, *]
 ·simp [-List.length_eq_zero_iff,Ac,Jrk, *]
 ·rw [Jvk] at h;rw [Bool.eq_iff_iff];simp [-List.length_eq_zero_iff,Ac,Jrk]
  intros
  omega
 ·simp [-List.length_eq_zero_iff,Ac,Jrk, *]
 ·rename_i hP _ _;rw [Jvk] at hP;have c1:¬ n.e < -1000:=by omega
  have c2:¬ 1000<n.e:=by omega
  have c3:¬ 1000<(n.s.length:Int)+n.e:=by omega
  simp [-List.length_eq_zero_iff,Ac,Jrk, *]
 ·rename_i hP _ _;rw [Jvk] at hP;have c1:¬ n.e < -1000:=by omega
  have c2:¬ 1000<n.e:=by omega
  have c3:¬ 1000<(n.s.length:Int)+n.e:=by omega
  simp [-List.length_eq_zero_iff,Ac,Jrk, *]
 ·rename_i hP _;rw [Jvk] at hP;have c1:¬ n.e < -1000:=by omega
  have c2:¬ 1000<n.e:=by omega
  have c3:¬ 1000<(n.s.length:Int)+n.e:=by omega
  rw [Bool.eq_iff_iff,beq_iff_eq,trim_eq omg];simp [-List.length_eq_zero_iff,Ac,Jrk, *];omega
end Go.LX
namespace Go.LX
open Go Go.RowKit Go.Proofs
attribute [local irreducible] Al SWP Bi
theorem Kbv (a b:Node) (ha:a.small) (hb:b.small):Det cx 236 [.p (.agg a.pv),.p (.agg b.pv)] [] (.p (.int .i64 (Jvj a b))) []:=by
 obtain ⟨a1,a2,a3⟩:=ha;obtain ⟨b1,b2,b3⟩:=hb;(refine bgo Tryz.func236 ?_;simp only [go_sem,simprocAttr,Js3]);simp (disch:=omega) only [Aa];(repeat' (first | (apply iteI <;> intro h)|((first | (refine Jqa (Jwa _ _) ?_)|(refine Jqa (J6j _ _) ?_));simp only [go_sem,simprocAttr]) | fail))
 all_goals simp_all [Jvj]
theorem J9o (a b:Node) (ha:a.small) (hb:b.small):Det cx 184 [.p (.agg a.pv),.p (.agg b.pv)] [] (.p (.int .i64 (Juo a b))) []:=by
 (refine bgo Tryz.func184 ?_;simp only [go_sem,simprocAttr,Js3]);(repeat' (first | (apply iteI <;> intro h)|((first | (refine Jqa (Kbv a b ha hb) ?_)|(refine Jqa (Kbv b a hb ha) ?_));simp only [go_sem,simprocAttr]) | fail))
 all_goals simp_all [Juo]
theorem Jyz (n:Node) (p:Int) (hn:n.small) (h1:-10000000≤p) (h2:p≤10000000):Det cx 238 [.p (.agg n.pv),.p (.int .i64 p)] [] (.p (.int .i64 (Jsj n p))) []:=by
 obtain ⟨a1,a2,a3⟩:=hn;(refine bgo Tryz.func238 ?_;simp only [go_sem,simprocAttr,Js3]);simp (disch:=omega) only [Aa];(repeat' (first | (apply iteI <;> intro h)|(refine Jqe ?_) | fail))
 all_goals (try simp only [Be] at *)
 all_goals (try rw [Aa omg omg])
 all_goals simp [Jsj, *]
theorem Kb0 (a b:Node) (ha:a.small) (hb:b.small):Det cx 189 [.p (.agg a.pv),.p (.agg b.pv)] [] (.p (.int .i64 (Jtf a b))) []:=by
 obtain ⟨a1,a2,a3⟩:=ha;obtain ⟨b1,b2,b3⟩:=hb;(refine bgo Tryz.func189 ?_;simp only [go_sem,simprocAttr,Js3]);simp (disch:=omega) only [Aa];(repeat' (apply iteI <;> intro h))
 ·simp_all [Jtf]
 ·refine SWP.loop (fun p:Int=>⟨Ba 56 [(2,.ptr 2 0 0),(3,.ptr 3 0 0),(5,.p (.int .i64 (-1))),(7,.p (.int .i64 p))],[(2,.var 29 (a.pv.map .p)),(3,.var 29 (b.pv.map .p))]⟩)
   (fun p=>min a.e b.e - 1≤p∧p≤max ((a.s.length:Int)+a.e) (b.s.length+b.e)∧Jtf a b=Jsv (Jsj a) (Jsj b) (if a.neg=true then -1 else 1) (p - min a.e b.e+1).toNat p)
   (fun p=>(p - min a.e b.e+1).toNat) (max ((a.s.length:Int)+a.e) (b.s.length+b.e)) (Jqw (by simp only [Ap,Ar,Ao,Aj,Af,Nat.reduceEqDiff,reduceIte,Nat.reduceLT,Nat.reduceLeDiff];simp [Ai,Au]) (by simp [Az,A3,Aw,Am,Ai,Js3]) (by simp [Ay])) ⟨by omega,by omega,by simp_all [Jtf]⟩ ?_
  rintro p ⟨g1,g2,g3⟩;have key:min a.e b.e≤p→Jtf a b=if Jsj a p<Jsj b p then -(if a.neg=true then -1 else 1) else if Jsj b p<Jsj a p then (if a.neg=true then -1 else 1) else Jsv (Jsj a) (Jsj b) (if a.neg=true then -1 else 1) (p - 1 - min a.e b.e+1).toNat (p - 1):=by
   intro h;rw [g3,show (p - min a.e b.e+1).toNat=(p - 1 - min a.e b.e+1).toNat+1 by omega,Jsv]
  (refine lws ?_;simp only [go_sem,simprocAttr,Js3]);(repeat' (first | (apply iteI <;> intro h)|((first | (refine Jqk ?_)|(refine Jqd (Jyz a p ⟨a1,a2,a3⟩ omg omg) ?_)|(refine Jqd (Jyz b p ⟨b1,b2,b3⟩ omg omg) ?_));simp only [go_sem,simprocAttr]) | fail))
  all_goals (try simp (disch:=omega) only [Aa,Qs,Ab,Jlh,Mf,Ja0,Jcc,Ja7,Jak] at *)
  ·(have hk:=key (by assumption);clear key g3;rw [hk];clear hk;simp_all <;> omega)
  ·(have hk:=key (by assumption);clear key g3;rw [hk];clear hk;simp_all <;> omega)
  ·exact ⟨p - 1,⟨by omega,by omega,by (have hk:=key (by assumption);clear key g3;rw [hk];clear hk;simp_all <;> omega)⟩,by omega,(Jqw (by simp only [Ap,Ar,Ao,Aj,Af,Nat.reduceEqDiff,reduceIte,Nat.reduceLT,Nat.reduceLeDiff];simp [Ai,Au]) (by simp [Az,A3,Aw,Am,Ai,Js3]) (by simp [Ay]))⟩
  ·rw [g3,show (p - min a.e b.e+1).toNat=0 by omega];rfl
 ·simp_all [Jtf]
 ·refine SWP.loop (fun p:Int=>⟨Ba 56 [(2,.ptr 2 0 0),(3,.ptr 3 0 0),(5,.p (.int .i64 1)),(7,.p (.int .i64 p))],[(2,.var 29 (a.pv.map .p)),(3,.var 29 (b.pv.map .p))]⟩)
   (fun p=>min a.e b.e - 1≤p∧p≤max ((a.s.length:Int)+a.e) (b.s.length+b.e)∧Jtf a b=Jsv (Jsj a) (Jsj b) (if a.neg=true then -1 else 1) (p - min a.e b.e+1).toNat p)
   (fun p=>(p - min a.e b.e+1).toNat) (max ((a.s.length:Int)+a.e) (b.s.length+b.e)) (Jqw (by simp only [Ap,Ar,Ao,Aj,Af,Nat.reduceEqDiff,reduceIte,Nat.reduceLT,Nat.reduceLeDiff];simp [Ai,Au]) (by simp [Az,A3,Aw,Am,Ai,Js3]) (by simp [Ay])) ⟨by omega,by omega,by simp_all [Jtf]⟩ ?_
  rintro p ⟨g1,g2,g3⟩;have key:min a.e b.e≤p→Jtf a b=if Jsj a p<Jsj b p then -(if a.neg=true then -1 else 1) else if Jsj b p<Jsj a p then (if a.neg=true then -1 else 1) else Jsv (Jsj a) (Jsj b) (if a.neg=true then -1 else 1) (p - 1 - min a.e b.e+1).toNat (p - 1):=by
   intro h;rw [g3,show (p - min a.e b.e+1).toNat=(p - 1 - min a.e b.e+1).toNat+1 by omega,Jsv]
  (refine lws ?_;simp only [go_sem,simprocAttr,Js3]);(repeat' (first | (apply iteI <;> intro h)|((first | (refine Jqk ?_)|(refine Jqd (Jyz a p ⟨a1,a2,a3⟩ omg omg) ?_)|(refine Jqd (Jyz b p ⟨b1,b2,b3⟩ omg omg) ?_));simp only [go_sem,simprocAttr]) | fail))
  all_goals (try simp (disch:=omega) only [Aa,Qs,Ab,Jlh,Mf,Ja0,Jcc,Ja7,Jak] at *)
  ·(have hk:=key (by assumption);clear key g3;rw [hk];clear hk;simp_all <;> omega)
  ·(have hk:=key (by assumption);clear key g3;rw [hk];clear hk;simp_all <;> omega)
  ·exact ⟨p - 1,⟨by omega,by omega,by (have hk:=key (by assumption);clear key g3;rw [hk];clear hk;simp_all <;> omega)⟩,by omega,(Jqw (by simp only [Ap,Ar,Ao,Aj,Af,Nat.reduceEqDiff,reduceIte,Nat.reduceLT,Nat.reduceLeDiff];simp [Ai,Au]) (by simp [Az,A3,Aw,Am,Ai,Js3]) (by simp [Ay]))⟩
  ·rw [g3,show (p - min a.e b.e+1).toNat=0 by omega];rfl
end Go.LX
