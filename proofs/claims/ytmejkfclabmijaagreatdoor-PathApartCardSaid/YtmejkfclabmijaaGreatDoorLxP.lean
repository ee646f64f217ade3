/- Values, the document's answer: parts and names. -/
import Derived.Test.YtmejkfclabmijaaGreatDoorLxO
import Derived.Test.YtmejkfclabmijaaGreatDoorLxN
import Derived.Test.YtmejkfclabmijaaGreatDoorLxJ
set_option linter.unusedSimpArgs false
set_option linter.unusedVariables false
set_option linter.unusedSectionVars false
set_option linter.unnecessarySimpa false
set_option maxRecDepth 100000
set_option maxHeartbeats 2000000
namespace Go.LX
open Go Go.RowKit Go.Proofs
attribute [local irreducible] Al SWP Bi
theorem Mm (v:List Node) (i j:Nat) (nm:List UInt8) (t:Tree) (rest:List Node) (hv:v.length≤1000000) (h:v.drop i=t.enc nm ++ rest) (hj:j=i+(t.enc nm).length):Det cx 103 [.p (.sl (valL v)),.p (.int .i64 i),.p (.int .i64 j)] [] (.p (.sl (valL (t.enc [])))) []:=by
 cases t with
 | mk k s g e kids =>
 have hs:=Tf h
 have hb:=L9 h (fun e=>by have e2:=congrArg List.length e;rw [A6] at e2;simp at e2)
 have hel:((Tree.mk k s g e kids).enc nm).length=kids.enc.length+1:=by rw [A6];rfl
 rw [List.length_append] at hb
 have hs':((valL v).drop i).take (j - i)=[.int .i64 k,.int .i64 kids.len,.str nm,.str s,.bool g,.int .i64 e] :: valL kids.enc:=by
  rw [hj,Nat.add_sub_cancel_left,hs,A6,Nh,C9]
 have htk:(valL kids.enc).take kids.enc.length=valL kids.enc:=List.take_of_length_le (by simp)
 have h6:∀ q∈([.int .i64 k,.int .i64 kids.len,.str nm,.str s,.bool g,.int .i64 e] :: valL kids.enc:List (List PV)),q.length=6:=fun q hq=>E7 ((Tree.mk k s g e kids).enc nm) q (by rw [A6];exact hq)
 skip
 (refine Al.of_code (X:=cx) false [] (by simp) Tryz.func103 (by kernel_rfl) rfl (by simp only [List.length_cons,List.length_nil,Tryz.ntmps103];decide) (by simp) ?_;refine Ae hm _ _ _ ?_;simp only [Tryz.ntmps103,Tryz.results103,go_sem,Nat.reduceLT,Nat.reduceLeDiff,Nat.reduceEqDiff,Nat.reduceAdd,Nat.reduceSub,Nat.reduceMul,Nat.reduceBEq,Int.reduceToNat,Int.reduceLT,Int.reduceLE,Int.reduceEq,Int.reduceAdd,Int.reduceSub,Int.reduceNeg,↓reduceIte,reduceCtorEq,hs',A7,htk,Nat.le_refl])
 (repeat' (first | (refine And.intro (E7 _) ?_)|(refine iteI (fun h=>?_) (fun h=>?_))|(refine Ak (by first | omega | (simp (disch:=omega) only [Aa,Ab,Ac] at *;omega)) ?_;intro b hb)|(refine And.intro (by first | omega | (simp (disch:=omega) only [Aa,Ab,Ac] at *;omega)) ?_)|((first | (refine Ah hm (by rfl) (by kernel_rfl) ?_));simp only [go_sem])|(exact True.intro)|(exfalso;omega)))
 rw [A6];rfl
theorem Mi {v:List Node} {j:Nat} {nm:List UInt8} {t:Tree} {b:List Node} (h:v.drop j=t.enc nm ++ b):∃ k n s g e,(valL v)[j]? = some [.int .i64 k,.int .i64 n,.str nm,.str s,.bool g,.int .i64 e]:=by
 cases t with
 | mk k s g e kids =>
  rw [A6] at h
  exact ⟨k,kids.len,s,g,e,D5 h⟩
theorem Dy (nm:List UInt8) (kd:Int) (s:List UInt8) (g:Bool) (e:Int) (kids:Forest) (hv:kids.enc.length≤999999):Det cx 43 [.p (.sl (valL ((Tree.mk kd s g e kids).enc nm)))] [] (.p (.sl (A4 kids.list))) []:=by
 have hl:=Forest.len_le kids
 have hkl:=Forest.list_len kids
 generalize hvv:(Tree.mk kd s g e kids).enc nm=v
 have h0:v.drop 0=⟨kd,kids.len,nm,s,g,e⟩ :: kids.enc:=by rw [← hvv,A6];rfl
 have hg0:=D5 h0
 rw [C9] at hg0
 have hvl:v.length=kids.enc.length+1:=by rw [← hvv,A6];rfl
 skip
 (refine Al.of_code (X:=cx) false [] (by simp) Tryz.func43 (by kernel_rfl) rfl (by simp only [List.length_cons,List.length_nil,Tryz.ntmps43];decide) (by simp) ?_;refine Ae hm _ _ _ ?_;simp only [Tryz.ntmps43,Tryz.results43,go_sem,Nat.reduceLT,Nat.reduceLeDiff,Nat.reduceEqDiff,Nat.reduceAdd,Nat.reduceSub,Nat.reduceMul,Nat.reduceBEq,Int.reduceToNat,Int.reduceLT,Int.reduceLE,Int.reduceEq,Int.reduceAdd,Int.reduceSub,Int.reduceNeg,↓reduceIte,reduceCtorEq,hg0])
 (repeat' (first | (refine iteI (fun h=>?_) (fun h=>?_))|(refine Ak (by first | omega | (simp (disch:=omega) only [Aa,Ab,Ac] at *;omega)) ?_;intro b hb)|(refine And.intro (by first | omega | (simp (disch:=omega) only [Aa,Ab,Ac] at *;omega)) ?_)|((first | (refine Ah hm (by rfl) (by kernel_rfl) ?_));simp only [go_sem])|(exact True.intro)|(exfalso;omega)))
 refine SWP.of_le (B1 [(7,25)] _ (by simp)) ?_
 simp only [go_sem,↓reduceIte]
 refine SWP.loop (fun x:Nat×Nat×Forest=>⟨Ba 28 [(0,.p (.sl (valL v))),(3,.own 25 0 x.1),(4,.p (.int .i64 x.2.1)),(5,.p (.int .i64 x.1))],[(25,.row 34 1 (A4 (kids.list.take x.1)))]⟩) (fun x=>x.1+x.2.2.len=kids.len∧v.drop x.2.1=x.2.2.enc∧x.2.1+x.2.2.enc.length=v.length∧kids.list.drop x.1=x.2.2.list) (fun x=>x.2.2.enc.length) (0,1,kids) (St.le_slots (by simp only [Ap,Ar,Ao,Aj,Af,Nat.reduceEqDiff,reduceIte,Nat.reduceLT,Nat.reduceLeDiff];simp (disch:=omega) [Af,Ai,Au,Aa] <;> (repeat' apply And.intro) <;> omega) (by simp (disch:=omega) [Az,A3,Aw,Am,Af,Ai,Au,Aa]) (by simp [Ay])) ⟨by simp,by rw [← hvv,A6];rfl,by simp only;omega,rfl⟩ ?_
 rintro ⟨k,j,F⟩ ⟨h1,h2,h3,h4⟩
 simp only at h1 h2 h3 h4 ⊢
 match F,h1,h2,h3,h4 with
 | .nil,h1,h2,h3,h4 =>
  simp only [Forest.len] at h1
  have hkk:k=kids.len:=by omega
  subst hkk
  have hpl:(kids.len≤(A4 (kids.list.take kids.len)).length)=True:=eq_true (by rw [A5,List.length_take];omega)
  have htk:(A4 (kids.list.take kids.len)).take kids.len=A4 kids.list:=by
   rw [List.take_of_length_le (by rw [A5,List.length_take];omega),List.take_of_length_le (by omega)]
  have hgj:=hpl
  skip
  (refine Ae hm _ _ _ ?_;simp only [go_sem,Nat.reduceLT,Nat.reduceLeDiff,Nat.reduceEqDiff,Nat.reduceAdd,Int.reduceToNat,Int.reduceLE,↓reduceIte,reduceCtorEq,hg0,hpl,htk])
  (repeat' (first | (refine iteI (fun h=>?_) (fun h=>?_))|(refine Ak (by first | omega | (simp (disch:=omega) only [Aa,Ab,Ac] at *;omega)) ?_;intro b hb)|(refine And.intro (by first | omega | (simp (disch:=omega) only [Aa,Ab,Ac] at *;omega)) ?_)|((first | (refine Ah hm (by rfl) (by kernel_rfl) ?_));simp only [go_sem])|(exact True.intro)|(exfalso;omega)))
  skip
 | .cons nm' t' r,h1,h2,h3,h4 =>
  rw [F2] at h1
  rw [A0] at h2 h3
  rw [List.length_append] at h3
  have hkk:kids.list[k]? = some (nm',t'):=by
   have:=congrArg (·[0]?) h4
   simpa [Forest.list] using this
  have hpk:=Gs hkk
  have hpl:(A4 (kids.list.take k)).length=k:=by rw [A5,List.length_take];omega
  have hw:=wj1 (i:=k) (by omega)
  have htk:=hw
  have hgj:=hw
  skip
  (refine Ae hm _ _ _ ?_;simp only [go_sem,Nat.reduceLT,Nat.reduceLeDiff,Nat.reduceEqDiff,Nat.reduceAdd,Int.reduceToNat,Int.reduceLE,↓reduceIte,reduceCtorEq,hg0,hpl])
  (repeat' (first | (refine iteI (fun h=>?_) (fun h=>?_))|(refine Ak (by first | omega | (simp (disch:=omega) only [Aa,Ab,Ac] at *;omega)) ?_;intro b hb)|(refine And.intro (by first | omega | (simp (disch:=omega) only [Aa,Ab,Ac] at *;omega)) ?_)|((first | (refine Ah hm (by rfl) (by kernel_rfl) ?_)|(refine Det.use (Cs v j nm' t' r.enc (by omega) h2) ?_)|(refine Det.useQ (Cs v j nm' t' r.enc (by omega) h2) ?_)|(refine Det.use (Mm v j (j+(t'.enc nm').length) nm' t' r.enc (by omega) h2 rfl) ?_)|(refine Det.useQ (Mm v j (j+(t'.enc nm').length) nm' t' r.enc (by omega) h2 rfl) ?_));simp only [go_sem,Nat.reduceLT,Nat.reduceLeDiff,Nat.reduceEqDiff,Nat.reduceMul,↓reduceIte,reduceCtorEq,hpl,htk])|(exact True.intro)|(exfalso;omega)))
  refine ⟨by simp,by omega,by omega,(k+1,j+(t'.enc nm').length,r),⟨by simp only;omega,by simp only;rw [← List.drop_drop,h2,List.drop_left],by simp only;omega,by simp only;rw [← List.drop_drop,h4];rfl⟩,by have:=Et t' nm';simp only [A0,List.length_append];omega,?_⟩
  simp only
  rw [hpk]
  exact (St.le_slots (by simp only [Ap,Ar,Ao,Aj,Af,Nat.reduceEqDiff,reduceIte,Nat.reduceLT,Nat.reduceLeDiff];simp (disch:=omega) [Af,Ai,Au,Aa] <;> (repeat' apply And.intro) <;> omega) (by simp (disch:=omega) [Az,A3,Aw,Am,Af,Ai,Au,Aa]) (by simp [Ay]))
theorem Qx (nm:List UInt8) (kd:Int) (s:List UInt8) (g:Bool) (e:Int) (kids:Forest) (hv:kids.enc.length≤999999):Det cx 43 [.p (.sl (valL ((Tree.mk kd s g e kids).enc nm)))] [] (.own 900 0 kids.len) [(900,.row 34 1 (A4 kids.list))]:=by
 have hl:=Forest.len_le kids
 have hkl:=Forest.list_len kids
 generalize hvv:(Tree.mk kd s g e kids).enc nm=v
 have h0:v.drop 0=⟨kd,kids.len,nm,s,g,e⟩ :: kids.enc:=by rw [← hvv,A6];rfl
 have hg0:=D5 h0
 rw [C9] at hg0
 have hvl:v.length=kids.enc.length+1:=by rw [← hvv,A6];rfl
 skip
 (refine Al.of_code (X:=cx) true [(25,900)] (by simp) Tryz.func43 (by kernel_rfl) rfl (by simp only [List.length_cons,List.length_nil,Tryz.ntmps43];decide) (by simp) ?_;refine Ae hm _ _ _ ?_;simp only [Tryz.ntmps43,Tryz.results43,go_sem,Nat.reduceLT,Nat.reduceLeDiff,Nat.reduceEqDiff,Nat.reduceAdd,Nat.reduceSub,Nat.reduceMul,Nat.reduceBEq,Int.reduceToNat,Int.reduceLT,Int.reduceLE,Int.reduceEq,Int.reduceAdd,Int.reduceSub,Int.reduceNeg,↓reduceIte,reduceCtorEq,hg0])
 (repeat' (first | (refine iteI (fun h=>?_) (fun h=>?_))|(refine Ak (by first | omega | (simp (disch:=omega) only [Aa,Ab,Ac] at *;omega)) ?_;intro b hb)|(refine And.intro (by first | omega | (simp (disch:=omega) only [Aa,Ab,Ac] at *;omega)) ?_)|((first | (refine Ah hm (by rfl) (by kernel_rfl) ?_));simp only [go_sem])|(exact True.intro)|(exfalso;omega)))
 refine SWP.of_le (B1 [(7,25)] _ (by simp)) ?_
 simp only [go_sem,↓reduceIte]
 refine SWP.loop (fun x:Nat×Nat×Forest=>⟨Ba 28 [(0,.p (.sl (valL v))),(3,.own 25 0 x.1),(4,.p (.int .i64 x.2.1)),(5,.p (.int .i64 x.1))],[(25,.row 34 1 (A4 (kids.list.take x.1)))]⟩) (fun x=>x.1+x.2.2.len=kids.len∧v.drop x.2.1=x.2.2.enc∧x.2.1+x.2.2.enc.length=v.length∧kids.list.drop x.1=x.2.2.list) (fun x=>x.2.2.enc.length) (0,1,kids) (St.le_slots (by simp only [Ap,Ar,Ao,Aj,Af,Nat.reduceEqDiff,reduceIte,Nat.reduceLT,Nat.reduceLeDiff];simp (disch:=omega) [Af,Ai,Au,Aa] <;> (repeat' apply And.intro) <;> omega) (by simp (disch:=omega) [Az,A3,Aw,Am,Af,Ai,Au,Aa]) (by simp [Ay])) ⟨by simp,by rw [← hvv,A6];rfl,by simp only;omega,rfl⟩ ?_
 rintro ⟨k,j,F⟩ ⟨h1,h2,h3,h4⟩
 simp only at h1 h2 h3 h4 ⊢
 match F,h1,h2,h3,h4 with
 | .nil,h1,h2,h3,h4 =>
  simp only [Forest.len] at h1
  have hkk:k=kids.len:=by omega
  subst hkk
  have hpl:(kids.len≤(A4 (kids.list.take kids.len)).length)=True:=eq_true (by rw [A5,List.length_take];omega)
  have htk:(A4 (kids.list.take kids.len)).take kids.len=A4 kids.list:=by
   rw [List.take_of_length_le (by rw [A5,List.length_take];omega),List.take_of_length_le (by omega)]
  have hgj:=hpl
  skip
  (refine Ae hm _ _ _ ?_;simp only [go_sem,Nat.reduceLT,Nat.reduceLeDiff,Nat.reduceEqDiff,Nat.reduceAdd,Int.reduceToNat,Int.reduceLE,↓reduceIte,reduceCtorEq,hg0])
  (repeat' (first | (refine iteI (fun h=>?_) (fun h=>?_))|(refine Ak (by first | omega | (simp (disch:=omega) only [Aa,Ab,Ac] at *;omega)) ?_;intro b hb)|(refine And.intro (by first | omega | (simp (disch:=omega) only [Aa,Ab,Ac] at *;omega)) ?_)|((first | (refine Ah hm (by rfl) (by kernel_rfl) ?_));simp only [go_sem])|(exact True.intro)|(exfalso;omega)))
  rw [List.take_of_length_le (Nat.le_of_eq hkl)]
 | .cons nm' t' r,h1,h2,h3,h4 =>
  rw [F2] at h1
  rw [A0] at h2 h3
  rw [List.length_append] at h3
  have hkk:kids.list[k]? = some (nm',t'):=by
   have:=congrArg (·[0]?) h4
   simpa [Forest.list] using this
  have hpk:=Gs hkk
  have hpl:(A4 (kids.list.take k)).length=k:=by rw [A5,List.length_take];omega
  have hw:=wj1 (i:=k) (by omega)
  have htk:=hw
  have hgj:=hw
  skip
  (refine Ae hm _ _ _ ?_;simp only [go_sem,Nat.reduceLT,Nat.reduceLeDiff,Nat.reduceEqDiff,Nat.reduceAdd,Int.reduceToNat,Int.reduceLE,↓reduceIte,reduceCtorEq,hg0])
  (repeat' (first | (refine iteI (fun h=>?_) (fun h=>?_))|(refine Ak (by first | omega | (simp (disch:=omega) only [Aa,Ab,Ac] at *;omega)) ?_;intro b hb)|(refine And.intro (by first | omega | (simp (disch:=omega) only [Aa,Ab,Ac] at *;omega)) ?_)|((first | (refine Ah hm (by rfl) (by kernel_rfl) ?_)|(refine Det.use (Cs v j nm' t' r.enc (by omega) h2) ?_)|(refine Det.useQ (Cs v j nm' t' r.enc (by omega) h2) ?_)|(refine Det.use (Mm v j (j+(t'.enc nm').length) nm' t' r.enc (by omega) h2 rfl) ?_)|(refine Det.useQ (Mm v j (j+(t'.enc nm').length) nm' t' r.enc (by omega) h2 rfl) ?_));simp only [go_sem,Nat.reduceLT,Nat.reduceLeDiff,Nat.reduceEqDiff,Nat.reduceMul,↓reduceIte,reduceCtorEq,hpl,htk])|(exact True.intro)|(exfalso;omega)))
  refine ⟨by simp,by omega,by omega,(k+1,j+(t'.enc nm').length,r),⟨by simp only;omega,by simp only;rw [← List.drop_drop,h2,List.drop_left],by simp only;omega,by simp only;rw [← List.drop_drop,h4];rfl⟩,by have:=Et t' nm';simp only [A0,List.length_append];omega,?_⟩
  simp only
  rw [hpk]
  exact (St.le_slots (by simp only [Ap,Ar,Ao,Aj,Af,Nat.reduceEqDiff,reduceIte,Nat.reduceLT,Nat.reduceLeDiff];simp (disch:=omega) [Af,Ai,Au,Aa] <;> (repeat' apply And.intro) <;> omega) (by simp (disch:=omega) [Az,A3,Aw,Am,Af,Ai,Au,Aa]) (by simp [Ay]))
end Go.LX
set_option maxRecDepth 100000
set_option maxHeartbeats 2000000
namespace Go.LX
open Go Go.RowKit Go.Proofs
attribute [local irreducible] Al SWP Bi
theorem Ir (nm:List UInt8) (s:List UInt8) (g:Bool) (e:Int) (kids:Forest) (hv:kids.enc.length≤999999):Det cx 44 [.p (.sl (valL ((Tree.mk 6 s g e kids).enc nm)))] [] (.p (.sl (Bd kids.list))) []:=by
 have hl:=Forest.len_le kids
 have hkl:=Forest.list_len kids
 generalize hvv:(Tree.mk 6 s g e kids).enc nm=v
 have h0:v.drop 0=⟨6,kids.len,nm,s,g,e⟩ :: kids.enc:=by rw [← hvv,A6];rfl
 have hg0:=D5 h0
 rw [C9] at hg0
 have hvl:v.length=kids.enc.length+1:=by rw [← hvv,A6];rfl
 skip
 (refine Al.of_code (X:=cx) false [] (by simp) Tryz.func44 (by kernel_rfl) rfl (by simp only [List.length_cons,List.length_nil,Tryz.ntmps44];decide) (by simp) ?_;refine Ae hm _ _ _ ?_;simp only [Tryz.ntmps44,Tryz.results44,go_sem,Nat.reduceLT,Nat.reduceLeDiff,Nat.reduceEqDiff,Nat.reduceAdd,Nat.reduceSub,Nat.reduceMul,Nat.reduceBEq,Int.reduceToNat,Int.reduceLT,Int.reduceLE,Int.reduceEq,Int.reduceAdd,Int.reduceSub,Int.reduceNeg,↓reduceIte,reduceCtorEq,hg0])
 (repeat' (first | (refine iteI (fun h=>?_) (fun h=>?_))|(refine Ak (by first | omega | (simp (disch:=omega) only [Aa,Ab,Ac] at *;omega)) ?_;intro b hb)|(refine And.intro (by first | omega | (simp (disch:=omega) only [Aa,Ab,Ac] at *;omega)) ?_)|((first | (refine Ah hm (by rfl) (by kernel_rfl) ?_));simp only [go_sem])|(exact True.intro)|(exfalso;omega)))
 refine SWP.of_le (B1 [(6,29)] _ (by simp)) ?_
 simp only [go_sem,↓reduceIte]
 refine SWP.loop (fun x:Nat×Nat×Forest=>⟨Ba 34 [(0,.p (.sl (valL v))),(3,.own 29 0 x.1),(4,.p (.int .i64 x.2.1)),(5,.p (.int .i64 x.1))],[(29,.row 9 1 (Bd (kids.list.take x.1)))]⟩) (fun x=>x.1+x.2.2.len=kids.len∧v.drop x.2.1=x.2.2.enc∧x.2.1+x.2.2.enc.length=v.length∧kids.list.drop x.1=x.2.2.list) (fun x=>x.2.2.enc.length) (0,1,kids) (St.le_slots (by simp only [Ap,Ar,Ao,Aj,Af,Nat.reduceEqDiff,reduceIte,Nat.reduceLT,Nat.reduceLeDiff];simp (disch:=omega) [Af,Ai,Au,Aa] <;> (repeat' apply And.intro) <;> omega) (by simp (disch:=omega) [Az,A3,Aw,Am,Af,Ai,Au,Aa]) (by simp [Ay])) ⟨by simp,by rw [← hvv,A6];rfl,by simp only;omega,rfl⟩ ?_
 rintro ⟨k,j,F⟩ ⟨h1,h2,h3,h4⟩
 simp only at h1 h2 h3 h4 ⊢
 match F,h1,h2,h3,h4 with
 | .nil,h1,h2,h3,h4 =>
  simp only [Forest.len] at h1
  have hkk:k=kids.len:=by omega
  subst hkk
  have hpl:(kids.len≤(Bd (kids.list.take kids.len)).length)=True:=eq_true (by rw [A9,List.length_take];omega)
  have htk:(Bd (kids.list.take kids.len)).take kids.len=Bd kids.list:=by
   rw [List.take_of_length_le (by rw [A9,List.length_take];omega),List.take_of_length_le (by omega)]
  have hgj:=hpl
  skip
  (refine Ae hm _ _ _ ?_;simp only [go_sem,Nat.reduceLT,Nat.reduceLeDiff,Nat.reduceEqDiff,Nat.reduceAdd,Int.reduceToNat,Int.reduceLE,↓reduceIte,reduceCtorEq,hg0,hpl,htk])
  (repeat' (first | (exfalso;omega)|(refine iteI (fun h=>?_) (fun h=>?_))|(refine Ak (by first | omega | (simp (disch:=omega) only [Aa,Ab,Ac] at *;omega)) ?_;intro b hb)|(refine And.intro (by first | omega | (simp (disch:=omega) only [Aa,Ab,Ac] at *;omega)) ?_)|((first | (refine Ah hm (by rfl) (by kernel_rfl) ?_));simp only [go_sem])|(exact True.intro)|(exfalso;omega)))
  skip
 | .cons nm' t' r,h1,h2,h3,h4 =>
  rw [F2] at h1
  rw [A0] at h2 h3
  rw [List.length_append] at h3
  have hkk:kids.list[k]? = some (nm',t'):=by
   have:=congrArg (·[0]?) h4
   simpa [Forest.list] using this
  have hpk:=Lr hkk
  have hpl:(Bd (kids.list.take k)).length=k:=by rw [A9,List.length_take];omega
  have hw:=wj1 (i:=k) (by omega)
  have htk:=hw
  obtain ⟨k9,n9,s9,g9,e9,hgj⟩:=Mi h2
  skip
  (refine Ae hm _ _ _ ?_;simp only [go_sem,Nat.reduceLT,Nat.reduceLeDiff,Nat.reduceEqDiff,Nat.reduceAdd,Nat.reduceMul,Int.reduceToNat,Int.reduceLE,↓reduceIte,reduceCtorEq,hg0,hpl,hgj])
  (repeat' (first | (refine iteI (fun h=>?_) (fun h=>?_))|(refine Ak (by first | omega | (simp (disch:=omega) only [Aa,Ab,Ac] at *;omega)) ?_;intro b hb)|(refine And.intro (by first | omega | (simp (disch:=omega) only [Aa,Ab,Ac] at *;omega)) ?_)|((first | (refine Ah hm (by rfl) (by kernel_rfl) ?_)|(refine Det.use (Cs v j nm' t' r.enc (by omega) h2) ?_)|(refine Det.useQ (Cs v j nm' t' r.enc (by omega) h2) ?_));simp only [go_sem])|(exact True.intro)|(exfalso;omega)))
  refine ⟨by simp,by omega,by omega,?_⟩
  (repeat' (first | (refine iteI (fun h=>?_) (fun h=>?_))|(refine Ak (by first | omega | (simp (disch:=omega) only [Aa,Ab,Ac] at *;omega)) ?_;intro b hb)|(refine And.intro (by first | omega | (simp (disch:=omega) only [Aa,Ab,Ac] at *;omega)) ?_)|((first | (refine Ah hm (by rfl) (by kernel_rfl) ?_)|(refine Det.use (Cs v j nm' t' r.enc (by omega) h2) ?_)|(refine Det.useQ (Cs v j nm' t' r.enc (by omega) h2) ?_));simp only [go_sem,Nat.reduceLT,Nat.reduceEqDiff,↓reduceIte,reduceCtorEq,htk])|(exact True.intro)|(exfalso;omega)))
  refine ⟨(k+1,j+(t'.enc nm').length,r),⟨by simp only;omega,by simp only;rw [← List.drop_drop,h2,List.drop_left],by simp only;omega,by simp only;rw [← List.drop_drop,h4];rfl⟩,by have:=Et t' nm';simp only [A0,List.length_append];omega,?_⟩
  simp only
  rw [hpk]
  exact (St.le_slots (by simp only [Ap,Ar,Ao,Aj,Af,Nat.reduceEqDiff,reduceIte,Nat.reduceLT,Nat.reduceLeDiff];simp (disch:=omega) [Af,Ai,Au,Aa] <;> (repeat' apply And.intro) <;> omega) (by simp (disch:=omega) [Az,A3,Aw,Am,Af,Ai,Au,Aa]) (by simp [Ay]))
theorem Jau (nm:List UInt8) (s:List UInt8) (g:Bool) (e:Int) (kids:Forest) (hv:kids.enc.length≤999999):Det cx 44 [.p (.sl (valL ((Tree.mk 6 s g e kids).enc nm)))] [] (.own 900 0 kids.len) [(900,.row 9 1 (Bd kids.list))]:=by
 have hl:=Forest.len_le kids
 have hkl:=Forest.list_len kids
 generalize hvv:(Tree.mk 6 s g e kids).enc nm=v
 have h0:v.drop 0=⟨6,kids.len,nm,s,g,e⟩ :: kids.enc:=by rw [← hvv,A6];rfl
 have hg0:=D5 h0
 rw [C9] at hg0
 have hvl:v.length=kids.enc.length+1:=by rw [← hvv,A6];rfl
 skip
 (refine Al.of_code (X:=cx) true [(29,900)] (by simp) Tryz.func44 (by kernel_rfl) rfl (by simp only [List.length_cons,List.length_nil,Tryz.ntmps44];decide) (by simp) ?_;refine Ae hm _ _ _ ?_;simp only [Tryz.ntmps44,Tryz.results44,go_sem,Nat.reduceLT,Nat.reduceLeDiff,Nat.reduceEqDiff,Nat.reduceAdd,Nat.reduceSub,Nat.reduceMul,Nat.reduceBEq,Int.reduceToNat,Int.reduceLT,Int.reduceLE,Int.reduceEq,Int.reduceAdd,Int.reduceSub,Int.reduceNeg,↓reduceIte,reduceCtorEq,hg0])
 (repeat' (first | (refine iteI (fun h=>?_) (fun h=>?_))|(refine Ak (by first | omega | (simp (disch:=omega) only [Aa,Ab,Ac] at *;omega)) ?_;intro b hb)|(refine And.intro (by first | omega | (simp (disch:=omega) only [Aa,Ab,Ac] at *;omega)) ?_)|((first | (refine Ah hm (by rfl) (by kernel_rfl) ?_));simp only [go_sem])|(exact True.intro)|(exfalso;omega)))
 refine SWP.of_le (B1 [(6,29)] _ (by simp)) ?_
 simp only [go_sem,↓reduceIte]
 refine SWP.loop (fun x:Nat×Nat×Forest=>⟨Ba 34 [(0,.p (.sl (valL v))),(3,.own 29 0 x.1),(4,.p (.int .i64 x.2.1)),(5,.p (.int .i64 x.1))],[(29,.row 9 1 (Bd (kids.list.take x.1)))]⟩) (fun x=>x.1+x.2.2.len=kids.len∧v.drop x.2.1=x.2.2.enc∧x.2.1+x.2.2.enc.length=v.length∧kids.list.drop x.1=x.2.2.list) (fun x=>x.2.2.enc.length) (0,1,kids) (St.le_slots (by simp only [Ap,Ar,Ao,Aj,Af,Nat.reduceEqDiff,reduceIte,Nat.reduceLT,Nat.reduceLeDiff];simp (disch:=omega) [Af,Ai,Au,Aa] <;> (repeat' apply And.intro) <;> omega) (by simp (disch:=omega) [Az,A3,Aw,Am,Af,Ai,Au,Aa]) (by simp [Ay])) ⟨by simp,by rw [← hvv,A6];rfl,by simp only;omega,rfl⟩ ?_
 rintro ⟨k,j,F⟩ ⟨h1,h2,h3,h4⟩
 simp only at h1 h2 h3 h4 ⊢
 match F,h1,h2,h3,h4 with
 | .nil,h1,h2,h3,h4 =>
  simp only [Forest.len] at h1
  have hkk:k=kids.len:=by omega
  subst hkk
  have hpl:(kids.len≤(Bd (kids.list.take kids.len)).length)=True:=eq_true (by rw [A9,List.length_take];omega)
  have htk:(Bd (kids.list.take kids.len)).take kids.len=Bd kids.list:=by
   rw [List.take_of_length_le (by rw [A9,List.length_take];omega),List.take_of_length_le (by omega)]
  have hgj:=hpl
  skip
  (refine Ae hm _ _ _ ?_;simp only [go_sem,Nat.reduceLT,Nat.reduceLeDiff,Nat.reduceEqDiff,Nat.reduceAdd,Int.reduceToNat,Int.reduceLE,↓reduceIte,reduceCtorEq,hg0])
  (repeat' (first | (exfalso;omega)|(refine iteI (fun h=>?_) (fun h=>?_))|(refine Ak (by first | omega | (simp (disch:=omega) only [Aa,Ab,Ac] at *;omega)) ?_;intro b hb)|(refine And.intro (by first | omega | (simp (disch:=omega) only [Aa,Ab,Ac] at *;omega)) ?_)|((first | (refine Ah hm (by rfl) (by kernel_rfl) ?_));simp only [go_sem])|(exact True.intro)|(exfalso;omega)))
  rw [List.take_of_length_le (Nat.le_of_eq hkl)]
 | .cons nm' t' r,h1,h2,h3,h4 =>
  rw [F2] at h1
  rw [A0] at h2 h3
  rw [List.length_append] at h3
  have hkk:kids.list[k]? = some (nm',t'):=by
   have:=congrArg (·[0]?) h4
   simpa [Forest.list] using this
  have hpk:=Lr hkk
  have hpl:(Bd (kids.list.take k)).length=k:=by rw [A9,List.length_take];omega
  have hw:=wj1 (i:=k) (by omega)
  have htk:=hw
  obtain ⟨k9,n9,s9,g9,e9,hgj⟩:=Mi h2
  skip
  (refine Ae hm _ _ _ ?_;simp only [go_sem,Nat.reduceLT,Nat.reduceLeDiff,Nat.reduceEqDiff,Nat.reduceAdd,Nat.reduceMul,Int.reduceToNat,Int.reduceLE,↓reduceIte,reduceCtorEq,hg0,hpl,hgj])
  (repeat' (first | (refine iteI (fun h=>?_) (fun h=>?_))|(refine Ak (by first | omega | (simp (disch:=omega) only [Aa,Ab,Ac] at *;omega)) ?_;intro b hb)|(refine And.intro (by first | omega | (simp (disch:=omega) only [Aa,Ab,Ac] at *;omega)) ?_)|((first | (refine Ah hm (by rfl) (by kernel_rfl) ?_)|(refine Det.use (Cs v j nm' t' r.enc (by omega) h2) ?_)|(refine Det.useQ (Cs v j nm' t' r.enc (by omega) h2) ?_));simp only [go_sem])|(exact True.intro)|(exfalso;omega)))
  refine ⟨by simp,by omega,by omega,?_⟩
  (repeat' (first | (refine iteI (fun h=>?_) (fun h=>?_))|(refine Ak (by first | omega | (simp (disch:=omega) only [Aa,Ab,Ac] at *;omega)) ?_;intro b hb)|(refine And.intro (by first | omega | (simp (disch:=omega) only [Aa,Ab,Ac] at *;omega)) ?_)|((first | (refine Ah hm (by rfl) (by kernel_rfl) ?_)|(refine Det.use (Cs v j nm' t' r.enc (by omega) h2) ?_)|(refine Det.useQ (Cs v j nm' t' r.enc (by omega) h2) ?_));simp only [go_sem,Nat.reduceLT,Nat.reduceEqDiff,↓reduceIte,reduceCtorEq,htk])|(exact True.intro)|(exfalso;omega)))
  refine ⟨(k+1,j+(t'.enc nm').length,r),⟨by simp only;omega,by simp only;rw [← List.drop_drop,h2,List.drop_left],by simp only;omega,by simp only;rw [← List.drop_drop,h4];rfl⟩,by have:=Et t' nm';simp only [A0,List.length_append];omega,?_⟩
  simp only
  rw [hpk]
  exact (St.le_slots (by simp only [Ap,Ar,Ao,Aj,Af,Nat.reduceEqDiff,reduceIte,Nat.reduceLT,Nat.reduceLeDiff];simp (disch:=omega) [Af,Ai,Au,Aa] <;> (repeat' apply And.intro) <;> omega) (by simp (disch:=omega) [Az,A3,Aw,Am,Af,Ai,Au,Aa]) (by simp [Ay]))
end Go.LX
set_option maxRecDepth 100000
set_option maxHeartbeats 2000000
namespace Go.LX
open Go Go.RowKit Go.Proofs
attribute [local irreducible] Al SWP Bi
def unn (l:List (List UInt8×Tree)):List (List UInt8×Tree):=l.map fun p=>([],p.2)
theorem Kp (l:List (List UInt8×Tree)):(unn l).length=l.length:=by simp [unn]
def hdK (k:Int) (n:Nat):List PV:=[.int .i64 k,.int .i64 n,.str [],.str [],.bool false,.int .i64 0]
theorem Oi (l:List (List UInt8×Tree)) (k:Nat):(A1 (l.take k)).enc.length≤(A1 l).enc.length:=by
 have e1:A1 l=(A1 (l.take k)).app (A1 (l.drop k)):=by rw [← Hz,List.take_append_drop]
 rw [e1,Forest.enc_app,List.length_append];omega
theorem Nu {l:List (List UInt8×Tree)} {k:Nat} {p:List UInt8×Tree} (h:l[k]? = some p):(A1 (l.take (k+1))).enc=(A1 (l.take k)).enc ++ p.2.enc p.1:=by
 rw [List.take_add_one,h,Option.toList_some,Hz,Forest.enc_app]
 simp only [A1,A0,Bl,List.append_nil]
theorem Rf (l:List (List UInt8×Tree)) (k:Nat):unn (l.take k)=(unn l).take k:=by simp [unn]
theorem Tt (l:List (List UInt8×Tree)) (hv:(A1 (unn l)).enc.length≤999999):Det cx 46 [.p (.sl (A4 l))] [] (.p (.sl (valL ((Tree.mk 5 [] false 0 (A1 (unn l))).enc [])))) []:=by
 have hll:=Forest.len_le (A1 (unn l))
 rw [Ca,Kp] at hll
 skip
 (refine Al.of_code (X:=cx) false [] (by simp) Tryz.func46 (by kernel_rfl) rfl (by simp only [List.length_cons,List.length_nil,Tryz.ntmps46];decide) (by simp) ?_;refine Ae hm _ _ _ ?_;simp only [Tryz.ntmps46,Tryz.results46,go_sem,Nat.reduceLT,Nat.reduceLeDiff,Nat.reduceEqDiff,Nat.reduceAdd,Nat.reduceSub,Nat.reduceMul,Nat.reduceBEq,Int.reduceToNat,Int.reduceLT,Int.reduceLE,Int.reduceEq,Int.reduceAdd,Int.reduceSub,Int.reduceNeg,↓reduceIte,reduceCtorEq,A5])
 (repeat' (first | (refine iteI (fun h=>?_) (fun h=>?_))|(refine Ak (by first | omega | (simp (disch:=omega) only [Aa,Ab,Ac] at *;omega)) ?_;intro b hb)|(refine And.intro (by first | omega | (simp (disch:=omega) only [Aa,Ab,Ac] at *;omega)) ?_)|((first | (refine Ah hm (by rfl) (by kernel_rfl) ?_));simp only [go_sem])|(exact True.intro)|(exfalso;omega)))
 refine SWP.of_le (B1 [(8,20)] _ (by simp)) ?_
 simp only [go_sem,↓reduceIte]
 refine SWP.loop (fun x:Nat×Nat×List (List PV)=>⟨Ba 22 [(0,.p (.sl (A4 l))),(3,.own 20 0 x.2.1),(4,.p (.int .i64 x.1))],[(20,.row 53 6 x.2.2)]⟩) (fun x=>x.1≤l.length∧x.2.1=(A1 ((unn l).take x.1)).enc.length+1∧x.2.2=hdK 5 l.length :: valL (A1 ((unn l).take x.1)).enc) (fun x=>l.length - x.1) (0,1,[hdK 5 l.length]) (by unfold hdK;exact (St.le_slots (by simp only [Ap,Ar,Ao,Aj,Af,Nat.reduceEqDiff,reduceIte,Nat.reduceLT,Nat.reduceLeDiff];simp (disch:=omega) [Af,Ai,Au,Aa] <;> (repeat' apply And.intro) <;> omega) (by simp (disch:=omega) [Az,A3,Aw,Am,Af,Ai,Au,Aa]) (by simp [Ay]))) ⟨Nat.zero_le _,rfl,rfl⟩ ?_
 rintro ⟨k,m,es⟩ ⟨hk,hm',hes⟩
 simp only at hk hm' hes
 have hml:es.length=m:=by rw [hes,hm'];simp
 have htk:es.take m=es:=List.take_of_length_le (by omega)
 by_cases hlt:¬ k<l.length
 ·have htl:(unn l).take k=unn l:=List.take_of_length_le (by rw [Kp];omega)
  rw [htl] at hes hm'
  have hkl:((k:Int)<(l.length:Int))=False:=eq_false (by omega)
  have hpl:=hkl
  have hw:=hkl
  skip
  (refine Ae hm _ _ _ ?_;simp only [go_sem,Nat.reduceLT,Nat.reduceEqDiff,↓reduceIte,reduceCtorEq,A5,hkl,hml,htk,Nat.le_refl])
  rw [hes,A6,Ca,Kp]
  rfl
 ·have hlt:=Decidable.not_not.1 hlt
  obtain ⟨p,hp⟩:∃ p,l[k]? = some p:=⟨_,List.getElem?_eq_getElem hlt⟩
  have hpl:(A4 l)[k]? = some [.sl (valL (p.2.enc []))]:=by simp [A4,hp]
  have hup:(unn l)[k]? = some ([],p.2):=by simp [unn,hp]
  have hkl:((k:Int)<(l.length:Int))=True:=eq_true (by omega)
  have h1:=Nu hup
  have h2:=Oi (unn l) (k+1)
  rw [h1,List.length_append] at h2
  have hw:=wj1 (i:=k) (by omega)
  skip
  (refine Ae hm _ _ _ ?_;simp only [go_sem,Nat.reduceLT,Nat.reduceEqDiff,Nat.reduceAdd,↓reduceIte,reduceCtorEq,A5,hkl,hpl,hw,hml,A7])
  (repeat' (first | (refine iteI (fun h=>?_) (fun h=>?_))|(refine Ak (by first | omega | (simp (disch:=omega) only [Aa,Ab,Ac] at *;omega)) ?_;intro b hb)|(refine And.intro (by first | omega | (simp (disch:=omega) only [Aa,Ab,Ac] at *;omega)) ?_)|((first | (refine Ah hm (by rfl) (by kernel_rfl) ?_));simp only [go_sem])|(exact True.intro)|(exfalso;omega)))
  simp only at h1 h2
  refine ⟨E7 _,by omega,by omega,(k+1,m+(p.2.enc []).length,es ++ valL (p.2.enc [])),⟨by simp only;omega,?_,?_⟩,by simp only;omega,?_⟩
  ·simp only
   rw [h1,List.length_append,hm'];omega
  ·simp only
   rw [h1,Ji,hes];rfl
  ·exact (St.le_slots (by simp only [Ap,Ar,Ao,Aj,Af,Nat.reduceEqDiff,reduceIte,Nat.reduceLT,Nat.reduceLeDiff];simp (disch:=omega) [Af,Ai,Au,Aa] <;> (repeat' apply And.intro) <;> omega) (by simp (disch:=omega) [Az,A3,Aw,Am,Af,Ai,Au,Aa]) (by simp [Ay]))
theorem Iy (l:List (List UInt8×Tree)) (hv:(A1 l).enc.length≤999999):Det cx 173 [.p (.sl (Bd l)),.p (.sl (A4 l))] [] (.p (.sl (valL ((Tree.mk 6 [] false 0 (A1 l)).enc [])))) []:=by
 have hll:=Forest.len_le (A1 l)
 rw [Ca] at hll
 skip
 (refine Al.of_code (X:=cx) false [] (by simp) Tryz.func173 (by kernel_rfl) rfl (by simp only [List.length_cons,List.length_nil,Tryz.ntmps173];decide) (by simp) ?_;refine Ae hm _ _ _ ?_;simp only [Tryz.ntmps173,Tryz.results173,go_sem,Nat.reduceLT,Nat.reduceLeDiff,Nat.reduceEqDiff,Nat.reduceAdd,Nat.reduceSub,Nat.reduceMul,Nat.reduceBEq,Int.reduceToNat,Int.reduceLT,Int.reduceLE,Int.reduceEq,Int.reduceAdd,Int.reduceSub,Int.reduceNeg,↓reduceIte,reduceCtorEq,A5])
 (repeat' (first | (refine iteI (fun h=>?_) (fun h=>?_))|(refine Ak (by first | omega | (simp (disch:=omega) only [Aa,Ab,Ac] at *;omega)) ?_;intro b hb)|(refine And.intro (by first | omega | (simp (disch:=omega) only [Aa,Ab,Ac] at *;omega)) ?_)|((first | (refine Ah hm (by rfl) (by kernel_rfl) ?_));simp only [go_sem])|(exact True.intro)|(exfalso;omega)))
 refine SWP.of_le (B1 [(12,26)] _ (by simp)) ?_
 simp only [go_sem,↓reduceIte]
 refine SWP.loop (fun x:Nat×Nat×List (List PV)=>⟨Ba 41 [(0,.p (.sl (Bd l))),(1,.p (.sl (A4 l))),(5,.own 26 0 x.2.1),(6,.p (.int .i64 x.1))],[(26,.row 53 6 x.2.2)]⟩) (fun x=>x.1≤l.length∧x.2.1=(A1 (l.take x.1)).enc.length+1∧x.2.2=hdK 6 l.length :: valL (A1 (l.take x.1)).enc) (fun x=>l.length - x.1) (0,1,[hdK 6 l.length]) (by unfold hdK;exact (St.le_slots (by simp only [Ap,Ar,Ao,Aj,Af,Nat.reduceEqDiff,reduceIte,Nat.reduceLT,Nat.reduceLeDiff];simp (disch:=omega) [Af,Ai,Au,Aa] <;> (repeat' apply And.intro) <;> omega) (by simp (disch:=omega) [Az,A3,Aw,Am,Af,Ai,Au,Aa]) (by simp [Ay]))) ⟨Nat.zero_le _,rfl,rfl⟩ ?_
 rintro ⟨k,m,es⟩ ⟨hk,hm',hes⟩
 simp only at hk hm' hes
 have hml:es.length=m:=by rw [hes,hm'];simp
 have htk:es.take m=es:=List.take_of_length_le (by omega)
 by_cases hlt:¬ k<l.length
 ·have htl:l.take k=l:=List.take_of_length_le (by omega)
  rw [htl] at hes hm'
  have hkl:((k:Int)<(l.length:Int))=False:=eq_false (by omega)
  have hpl:=hkl
  have hnl:=hkl
  have hge:=hkl
  have hsp:=hkl
  have hw:=hkl
  have hvl:=hkl
  skip
  (refine Ae hm _ _ _ ?_;simp only [go_sem,Nat.reduceLT,Nat.reduceEqDiff,↓reduceIte,reduceCtorEq,A5,hkl,hml,htk,Nat.le_refl])
  rw [hes,A6,Ca]
  rfl
 ·have hlt:=Decidable.not_not.1 hlt
  obtain ⟨p,hp⟩:∃ p,l[k]? = some p:=⟨_,List.getElem?_eq_getElem hlt⟩
  have hpl:(A4 l)[k]? = some [.sl (valL (p.2.enc []))]:=by simp [A4,hp]
  have hnl:(Bd l)[k]? = some [.str p.1]:=by simp [Bd,hp]
  have hkl:((k:Int)<(l.length:Int))=True:=eq_true (by omega)
  have h1:=Nu hp
  have h2:=Oi l (k+1)
  rw [h1,List.length_append] at h2
  have hw:=wj1 (i:=k) (by omega)
  obtain ⟨⟨nm',t⟩,rfl⟩:∃ q,q=p:=⟨p,rfl⟩
  cases t with
  | mk kd' s' g' e' kids' =>
  have hge:(es ++ valL ((Tree.mk kd' s' g' e' kids').enc []))[m]? = some [.int .i64 kd',.int .i64 kids'.len,.str [],.str s',.bool g',.int .i64 e']:=by
   rw [List.getElem?_append_right (by omega),hml,Nat.sub_self,A6];rfl
  have hsp:(es ++ valL ((Tree.mk kd' s' g' e' kids').enc [])).set m [.int .i64 kd',.int .i64 kids'.len,.str nm',.str s',.bool g',.int .i64 e']=es ++ valL ((Tree.mk kd' s' g' e' kids').enc nm'):=by
   rw [List.set_append_right _ _ (by omega),hml,Nat.sub_self,A6,A6];rfl
  have hvl:((Tree.mk kd' s' g' e' kids').enc []).length=((Tree.mk kd' s' g' e' kids').enc nm').length:=by rw [G7 _ nm']
  simp only at h1 h2
  skip
  (refine Ae hm _ _ _ ?_;simp only [go_sem,Nat.reduceLT,Nat.reduceLeDiff,Nat.reduceEqDiff,Nat.reduceAdd,↓reduceIte,reduceCtorEq,A5,hkl,hpl,hnl,hge,hsp,hw,hvl,hml,Nat.le_refl,A7])
  have hpos:=Et (Tree.mk kd' s' g' e' kids') nm'
  refine ⟨E7 _,by omega,by omega,?_⟩
  (repeat' (first | (refine iteI (fun h=>?_) (fun h=>?_))|(refine Ak (by first | omega | (simp (disch:=omega) only [Aa,Ab,Ac] at *;omega)) ?_;intro b hb)|(refine And.intro (by first | omega | (simp (disch:=omega) only [Aa,Ab,Ac] at *;omega)) ?_)|((first | (refine Ah hm (by rfl) (by kernel_rfl) ?_));simp only [go_sem])|(exact True.intro)|(exfalso;omega)))
  refine ⟨(k+1,m+((Tree.mk kd' s' g' e' kids').enc nm').length,es ++ valL ((Tree.mk kd' s' g' e' kids').enc nm')),⟨by simp only;omega,?_,?_⟩,by simp only;omega,?_⟩
  ·simp only
   rw [h1,List.length_append,hm'];omega
  ·simp only
   rw [h1,Ji,hes];rfl
  ·exact (St.le_slots (by simp only [Ap,Ar,Ao,Aj,Af,Nat.reduceEqDiff,reduceIte,Nat.reduceLT,Nat.reduceLeDiff];simp (disch:=omega) [Af,Ai,Au,Aa] <;> (repeat' apply And.intro) <;> omega) (by simp (disch:=omega) [Az,A3,Aw,Am,Af,Ai,Au,Aa]) (by simp [Ay]))
end Go.LX
set_option maxRecDepth 100000
set_option maxHeartbeats 2000000
namespace Go.LX
open Go Go.RowKit Go.Proofs
attribute [local irreducible] Al SWP Bi
theorem d_tz:Det cx 271 [.p (.int .u64 16)] [] (.p (.int .i64 4)) []:=by
 refine Det.of_below (v:=.int .i64 4) (enters_of Tryz.func271 (by kernel_rfl) rfl) rfl (fun _ _ _=>.int _ _) fun β Im w vs hg hf=>?_
 obtain ⟨v,rfl,hv⟩:=fit1 hf
 have:=Mz hv;subst this
 have hc:Lib.ctz 64 16=4:=by decide
 refine (Any7.bits_TrailingZeros Tryz.lays7_27 16 (by decide) w (fun _=>(Jbj hg).tz)).mono fun e w' ⟨he,hw⟩=>?_
 subst hw
 rw [hc] at he
 exact ⟨he,Below.refl _ _⟩
theorem Rj:Det cx 270 [.p (.int .i64 16)] [] (.p (.bool true)) []:=by
 (refine Al.of_code (X:=cx) false [] (by simp) Tryz.func270 (by kernel_rfl) rfl (by simp only [List.length_cons,List.length_nil,Tryz.ntmps270];decide) (by simp) ?_;refine Ae hm _ _ _ ?_;simp only [Tryz.ntmps270,Tryz.results270,go_sem,Nat.reduceLT,Nat.reduceLeDiff,Nat.reduceEqDiff,Nat.reduceAdd,Nat.reduceSub,Nat.reduceMul,Nat.reduceBEq,Int.reduceToNat,Int.reduceLT,Int.reduceLE,Int.reduceEq,Int.reduceAdd,Int.reduceSub,Int.reduceNeg,↓reduceIte,reduceCtorEq])
 decide
theorem f_z133:Bu Tryz.prog 253=some [.int .u8 0,.int .u8 0,.int .u8 0,.int .u8 0,.int .u8 0,.int .u8 0,.int .u8 0,.int .u8 0,.int .u8 0,.int .u8 0,.int .u8 0,.int .u8 0,.int .u8 0,.int .u8 0,.int .u8 0,.int .u8 0,.int .u8 0,.int .u8 0,.int .u8 0,.int .u8 0,.int .u8 0,.int .u8 0,.int .u8 0,.int .u8 0,.int .u8 0,.int .u8 0,.int .u8 0,.int .u8 0,.int .u8 0,.int .u8 0,.int .u8 0,.int .u8 0,.int .u8 0,.int .u8 0,.int .u8 0,.int .u8 0,.int .u8 0,.int .u8 0,.int .u8 0,.int .u8 0,.int .u8 0,.int .u8 0,.int .u8 0,.int .u8 0,.int .u8 0,.int .u8 0,.int .u8 0,.int .u8 0,.int .u8 0,.int .u8 0,.int .u8 0,.int .u8 0,.int .u8 0,.int .u8 0,.int .u8 0,.int .u8 0,.int .u8 0,.int .u8 0,.int .u8 0,.int .u8 0,.int .u8 0,.int .u8 0,.int .u8 0,.int .u8 0,.int .u8 0]:=by kernel_rfl
theorem wc1:IntKind.u64.wrap 16=16:=by decide
theorem wc2:IntKind.u64.wrap 15=15:=by decide
theorem wc3:IntKind.u64.wrap 4=4:=by decide
theorem wc4:IntKind.i64.wrap 64=64:=by decide
theorem wc5:IntKind.i64.wrap 63=63:=by decide
theorem wc6:IntKind.i64.wrap 62=62:=by decide
theorem Jjm (x:Nat):IntKind.u64.wrap (BitVec.ofInt (B0 .u64) (x:Int) &&& BitVec.ofInt (B0 .u64) 15).toNat=((x % 16:Nat):Int):=by
 have e:(BitVec.ofInt (B0 .u64) (x:Int) &&& BitVec.ofInt (B0 .u64) 15).toNat=x % 16:=by
  show (BitVec.ofInt 64 (x:Int) &&& BitVec.ofInt 64 15).toNat=x % 16
  rw [BitVec.toNat_and,show (BitVec.ofInt 64 15).toNat=2 ^ 4 - 1 by decide,Nat.and_two_pow_sub_one_eq_mod]
  simp
 rw [e,Mf (by omega) (by omega)]
theorem fd4 (x:Nat):(x:Int).fdiv (2 ^ min 4 (B0 .u64))=((x / 16:Nat):Int):=by
 rw [Int.fdiv_eq_ediv_of_nonneg _ (by decide)];simp [B0,IntKind.bits]
def hexds:List UInt8:=[48,49,50,51,52,53,54,55,56,57,97,98,99,100,101,102,103,104,105,106,107,108,109,110,111,112,113,114,115,116,117,118,119,120,121,122]
def hexd (n:Nat):UInt8:=hexds.getD n 0
theorem Mj (u:Nat) (h1:256≤u) (h2:u<4096):Det cx 255 [.p .snil,.p (.int .u64 u),.p (.int .i64 16),.p (.bool false),.p (.bool false)] [] (.tup [.snil,.str [hexd (u / 16 / 16),hexd (u / 16 % 16),hexd (u % 16)]]) []:=by
 skip
 (refine Al.of_code (X:=cx) false [] (by simp) Tryz.func255 (by kernel_rfl) rfl (by simp only [List.length_cons,List.length_nil,Tryz.ntmps255];decide) (by simp) ?_;refine Ae hm _ _ _ ?_;simp only [Tryz.ntmps255,Tryz.results255,go_sem,Nat.reduceLT,Nat.reduceLeDiff,Nat.reduceEqDiff,Nat.reduceAdd,Nat.reduceSub,Nat.reduceMul,Nat.reduceBEq,Int.reduceToNat,Int.reduceLT,Int.reduceLE,Int.reduceEq,Int.reduceAdd,Int.reduceSub,Int.reduceNeg,↓reduceIte,reduceCtorEq,f_z133,wc1,wc2,wc3,wc4,wc5,wc6,Jjm,fd4])
 (repeat' (first | (refine iteI (fun h=>?_) (fun h=>?_))|(refine Ak (by first | omega | (simp (disch:=omega) only [Aa,Ab,Ac] at *;omega)) ?_;intro b hb)|(refine And.intro (by first | omega | (simp (disch:=omega) only [Aa,Ab,Ac] at *;omega)) ?_)|((first | (refine Ah hm (by rfl) (by kernel_rfl) ?_)|(refine Det.use (d_tz) ?_)|(refine Det.useQ (d_tz) ?_)|(refine Det.use (Rj) ?_)|(refine Det.useQ (Rj) ?_));simp only [go_sem,Nat.reduceLT,Nat.reduceEqDiff,Int.reduceSub,↓reduceIte,reduceCtorEq,wc1,wc2,wc3])|(exact True.intro)|(exfalso;omega)))
 (refine SWP.rounds 4 ?_;refine SWP.roundI hm ?_;simp only [go_sem,Nat.reduceLT,Nat.reduceLeDiff,Nat.reduceEqDiff,Nat.reduceAdd,Nat.reduceSub,Nat.reduceMul,Int.reduceToNat,Int.reduceLE,Int.reduceSub,↓reduceIte,reduceCtorEq,wc4,Jjm,fd4])
 (repeat' (first | (refine iteI (fun h=>?_) (fun h=>?_))|(refine Ak (by first | omega | (simp (disch:=omega) only [Aa,Ab,Ac] at *;omega)) ?_;intro b hb)|(refine And.intro (by first | omega | (simp (disch:=omega) only [Aa,Ab,Ac] at *;omega)) ?_)|((first | (refine Ah hm (by rfl) (by kernel_rfl) ?_));simp only [go_sem])|(refine SWP.roundI hm ?_;simp only [go_sem,Nat.reduceLT,Nat.reduceLeDiff,Nat.reduceEqDiff,Nat.reduceAdd,Nat.reduceSub,Nat.reduceMul,Int.reduceToNat,Int.reduceLE,Int.reduceSub,↓reduceIte,reduceCtorEq,wc5,wc6,Jjm,fd4])|(exact True.intro)|(exfalso;omega)))
 exact ⟨rfl,rfl,rfl⟩
def hex3 (u:Nat):List UInt8:=[hexd (u / 16 / 16),hexd (u / 16 % 16),hexd (u % 16)]
theorem wcn {u:Nat} (h:u<4096):IntKind.u64.wrap (u:Int)=u:=Mf (by omega) (by omega)
theorem Ke (u:Nat) (h1:256≤u) (h2:u<4096):Det cx 226 [.p (.int .i64 u),.p (.int .i64 16)] [] (.p (.str (hex3 u))) []:=by
 skip
 (refine Al.of_code (X:=cx) false [] (by simp) Tryz.func226 (by kernel_rfl) rfl (by simp only [List.length_cons,List.length_nil,Tryz.ntmps226];decide) (by simp) ?_;refine Ae hm _ _ _ ?_;simp only [Tryz.ntmps226,Tryz.results226,go_sem,Nat.reduceLT,Nat.reduceLeDiff,Nat.reduceEqDiff,Nat.reduceAdd,Nat.reduceSub,Nat.reduceMul,Nat.reduceBEq,Int.reduceToNat,Int.reduceLT,Int.reduceLE,Int.reduceEq,Int.reduceAdd,Int.reduceSub,Int.reduceNeg,↓reduceIte,reduceCtorEq,wcn h2])
 (repeat' (first | (refine iteI (fun h=>?_) (fun h=>?_))|(refine Ak (by first | omega | (simp (disch:=omega) only [Aa,Ab,Ac] at *;omega)) ?_;intro b hb)|(refine And.intro (by first | omega | (simp (disch:=omega) only [Aa,Ab,Ac] at *;omega)) ?_)|((first | (refine Ah hm (by rfl) (by kernel_rfl) ?_)|(refine Det.use (Mj u h1 h2) ?_)|(refine Det.useQ (Mj u h1 h2) ?_));simp only [go_sem,Nat.reduceLT,Nat.reduceEqDiff,↓reduceIte,wcn h2])|(exact True.intro)|(exfalso;omega)))
 rfl
theorem Ph (u:Nat) (h1:256≤u) (h2:u<4096):Det cx 181 [.p (.int .i64 u),.p (.int .i64 16)] [] (.p (.str (hex3 u))) []:=by
 (refine Al.of_code (X:=cx) false [] (by simp) Tryz.func181 (by kernel_rfl) rfl (by simp only [List.length_cons,List.length_nil,Tryz.ntmps181];decide) (by simp) ?_;refine Ae hm _ _ _ ?_;simp only [Tryz.ntmps181,Tryz.results181,go_sem,Nat.reduceLT,Nat.reduceLeDiff,Nat.reduceEqDiff,Nat.reduceAdd,Nat.reduceSub,Nat.reduceMul,Nat.reduceBEq,Int.reduceToNat,Int.reduceLT,Int.reduceLE,Int.reduceEq,Int.reduceAdd,Int.reduceSub,Int.reduceNeg,↓reduceIte,reduceCtorEq])
 (repeat' (first | (refine iteI (fun h=>?_) (fun h=>?_))|(refine Ak (by first | omega | (simp (disch:=omega) only [Aa,Ab,Ac] at *;omega)) ?_;intro b hb)|(refine And.intro (by first | omega | (simp (disch:=omega) only [Aa,Ab,Ac] at *;omega)) ?_)|((first | (refine Ah hm (by rfl) (by kernel_rfl) ?_)|(refine Det.use (Ke u h1 h2) ?_)|(refine Det.useQ (Ke u h1 h2) ?_));simp only [go_sem,Nat.reduceLT,↓reduceIte])|(exact True.intro)|(exfalso;omega)))
def low (c:Nat):Nat:=if c / 32 % 2=1 then c else c+32
theorem or32 (c:Nat) (h:c≤255):IntKind.u8.wrap (BitVec.ofInt (B0 .u8) (c:Int) ||| BitVec.ofInt (B0 .u8) 32).toNat=(low c:Int):=by
 have key:∀ m:Fin 256,IntKind.u8.wrap (BitVec.ofInt (B0 .u8) (m.val:Int) ||| BitVec.ofInt (B0 .u8) 32).toNat=(low m.val:Int):=by decide
 exact key ⟨c,by omega⟩
theorem Jde (c:Nat) (h:c≤255):Det cx 272 [.p (.int .u8 c)] [] (.p (.int .u8 (low c))) []:=by
 (refine Al.of_code (X:=cx) false [] (by simp) Tryz.func272 (by kernel_rfl) rfl (by simp only [List.length_cons,List.length_nil,Tryz.ntmps272];decide) (by simp) ?_;refine Ae hm _ _ _ ?_;simp only [Tryz.ntmps272,Tryz.results272,go_sem,Nat.reduceLT,Nat.reduceLeDiff,Nat.reduceEqDiff,Nat.reduceAdd,Nat.reduceSub,Nat.reduceMul,Nat.reduceBEq,Int.reduceToNat,Int.reduceLT,Int.reduceLE,Int.reduceEq,Int.reduceAdd,Int.reduceSub,Int.reduceNeg,↓reduceIte,reduceCtorEq])
 rw [or32 c h]
def hexv (c:Nat):Option Nat:=if 48≤c∧c≤57 then some (c - 48) else if 97≤c∧c≤102 then some (c - 87) else if 65≤c∧c≤70 then some (c - 55) else none
def hexN:List UInt8→Nat→Option Nat
 | [],a=>some a
 | c :: s,a=>match hexv c.toNat with
  | some d=>hexN s (a * 16+d)
  | none=>none
def Jbb (o:Option Nat):L:=match o with
 | some n=>.tup [.int .u64 n,.nifc]
 | none=>.tup [.int .u64 0,.ifi 213 .i64 2]
theorem Jdb (s:List UInt8) (i:Nat):(s.getD i default).toNat=at_ s i:=rfl
theorem wc7:IntKind.u64.wrap (1 * 2 ^ min 16 (B0 .u64))=65536:=by decide
theorem wc8:IntKind.u64.wrap 65535=65535:=by decide
theorem Nn {s:List UInt8} {i n:Nat} (h:i<s.length):hexN (s.drop i) n=(match hexv (at_ s i) with | some d=>hexN (s.drop (i+1)) (n * 16+d) | none=>none):=by
 rw [List.drop_eq_getElem_cons h]
 simp only [hexN]
 rw [Ql h]
theorem Je6 (c:Nat):(c / 32 % 2=1∧low c=c)∨(c / 32 % 2≠1∧low c=c+32):=by
 unfold low;split <;> omega
theorem Kf (s:List UInt8) (hs:s.length=4):Det cx 256 [.p (.str s),.p (.int .i64 16),.p (.int .i64 16)] [] (Jbb (hexN s 0)) []:=by
 skip
 (refine Al.of_code (X:=cx) false [] (by simp) Tryz.func256 (by kernel_rfl) rfl (by simp only [List.length_cons,List.length_nil,Tryz.ntmps256];decide) (by simp) ?_;refine Ae hm _ _ _ ?_;simp only [Tryz.ntmps256,Tryz.results256,go_sem,Nat.reduceLT,Nat.reduceLeDiff,Nat.reduceEqDiff,Nat.reduceAdd,Nat.reduceSub,Nat.reduceMul,Nat.reduceBEq,Int.reduceToNat,Int.reduceLT,Int.reduceLE,Int.reduceEq,Int.reduceAdd,Int.reduceSub,Int.reduceNeg,↓reduceIte,reduceCtorEq,wc1,wc7,wc8,Jdb])
 (repeat' (first | (refine iteI (fun h=>?_) (fun h=>?_))|(refine Ak (by first | omega | (simp (disch:=omega) only [Aa,Ab,Ac] at *;omega)) ?_;intro b hb)|(refine And.intro (by first | omega | (simp (disch:=omega) only [Aa,Ab,Ac] at *;omega)) ?_)|((first | (refine Ah hm (by rfl) (by kernel_rfl) ?_));simp only [go_sem])|(exact True.intro)|(exfalso;omega)))
 refine SWP.loop (fun x:Nat×Nat=>⟨Ba 172 [(1,.p (.int .i64 16)),(2,.p (.int .i64 16)),(8,.p (.bool false)),(9,.p (.str s)),(10,.p (.int .u64 1152921504606846976)),(11,.p (.int .u64 65535)),(12,.p (.bool false)),(13,.p (.int .u64 x.2)),(99,.p (.sl (s.map fun c=>[.int .u8 c.toNat]))),(100,.p (.int .i64 s.length)),(101,.p (.int .i64 x.1))],[]⟩) (fun x=>x.1≤4∧x.2<16 ^ x.1∧hexN (s.drop x.1) x.2=hexN s 0) (fun x=>4 - x.1) (0,0) (St.le_slots (by simp only [Ap,Ar,Ao,Aj,Af,Nat.reduceEqDiff,reduceIte,Nat.reduceLT,Nat.reduceLeDiff];simp (disch:=omega) [Af,Ai,Au,Aa] <;> (repeat' apply And.intro) <;> omega) (by simp (disch:=omega) [Az,A3,Aw,Am,Af,Ai,Au,Aa]) (by simp [Ay])) ⟨by omega,by decide,rfl⟩ ?_
 rintro ⟨i,n⟩ ⟨h1,h2,h3⟩
 (refine Ae hm _ _ _ ?_;simp only [go_sem,Nat.reduceLT,Nat.reduceEqDiff,↓reduceIte,wc1,Jdb])
 simp only at h1 h2 h3
 have hL:=Je6 (at_ s i)
 have hA:=Fr s i
 have hP:i<4→n<4096:=fun h=>Nat.lt_of_lt_of_le h2 (Nat.le_trans (Nat.pow_le_pow_right (by decide) (show i≤3 by omega)) (by decide))
 have hS:i<4→∀ d<16,n * 16+d<16 ^ (i+1):=fun h d hd=>by rw [Nat.pow_succ];omega
 (repeat' (first | (refine iteI (fun h=>?_) (fun h=>?_))|(refine Ak (by first | omega | (simp (disch:=omega) only [Aa,Ab,Ac] at *;omega)) ?_;intro b hb)|(refine And.intro (by first | omega | (simp (disch:=omega) only [Aa,Ab,Ac] at *;omega)) ?_)|((first | (refine Ah hm (by rfl) (by kernel_rfl) ?_)|(refine Det.use (Jde _ (Fr s i)) ?_)|(refine Det.useQ (Jde _ (Fr s i)) ?_));simp only [go_sem,Nat.reduceLT,Nat.reduceEqDiff,↓reduceIte,wc1])|(exact True.intro)|(exfalso;omega)))
 all_goals (try simp only [Be,Ub] at *)
 all_goals first
  | (exfalso;omega)
  | (
   have e:hexN s 0=none:=by
    rw [← h3,Nn (by omega),show hexv (at_ s i)=none by unfold hexv;rw [if_neg (by omega),if_neg (by omega),if_neg (by omega)]]
   rw [e];rfl)
  | (
   have e:hexN s 0=some n:=by
    rw [← h3,List.drop_eq_nil_of_le (by omega)];rfl
   rw [e];rfl)
  | (
   have h57:at_ s i≤57:=by omega
   obtain ⟨d,hd,hv,ho⟩:∃ d,d<16∧hexv (at_ s i)=some d∧(d:Int)=at_ s i - 48:=⟨at_ s i - 48,by omega,by unfold hexv;rw [if_pos (by omega)],by omega⟩
   refine ⟨(i+1,n * 16+d),⟨by simp only;omega,hS (by omega) d hd,?_⟩,by simp only;omega,(St.le_slots (by simp only [Ap,Ar,Ao,Aj,Af,Nat.reduceEqDiff,reduceIte,Nat.reduceLT,Nat.reduceLeDiff];simp (disch:=omega) [Af,Ai,Au,Aa] <;> (repeat' apply And.intro) <;> omega) (by simp (disch:=omega) [Az,A3,Aw,Am,Af,Ai,Au,Aa]) (by simp [Ay]))⟩
   simp only;rw [← h3,Nn (i:=i) (n:=n) (by omega),hv])
  | (
   obtain ⟨d,hd,hv,ho⟩:∃ d,d<16∧hexv (at_ s i)=some d∧(d:Int)=low (at_ s i) - 87:=by
    by_cases h97:97≤at_ s i
    ·exact ⟨at_ s i - 87,by omega,by unfold hexv;rw [if_neg (by omega),if_pos (by omega)],by omega⟩
    ·exact ⟨at_ s i - 55,by omega,by unfold hexv;rw [if_neg (by omega),if_neg (by omega),if_pos (by omega)],by omega⟩
   refine ⟨(i+1,n * 16+d),⟨by simp only;omega,hS (by omega) d hd,?_⟩,by simp only;omega,(St.le_slots (by simp only [Ap,Ar,Ao,Aj,Af,Nat.reduceEqDiff,reduceIte,Nat.reduceLT,Nat.reduceLeDiff];simp (disch:=omega) [Af,Ai,Au,Aa] <;> (repeat' apply And.intro) <;> omega) (by simp (disch:=omega) [Az,A3,Aw,Am,Af,Ai,Au,Aa]) (by simp [Ay]))⟩
   simp only;rw [← h3,Nn (i:=i) (n:=n) (by omega),hv])
end Go.LX
namespace Go.LX
open Go
def dec (s:List UInt8) (i:Nat):Nat×Nat:=Utf8.decode ⟨⟨s⟩⟩ i
def ct (s:List UInt8) (k:Nat):Bool:=decide (k<s.length) && (decide (128≤at_ s k) && decide (at_ s k<192))
def rlen (s:List UInt8) (i:Nat):Nat :=
 if at_ s i<128 then 1
 else if 194≤at_ s i∧at_ s i<224∧ct s (i+1)=true then 2
 else if 224≤at_ s i∧at_ s i<240∧ct s (i+1)=true∧ct s (i+2)=true then
  (if (at_ s i=224∧at_ s (i+1)<160)∨(at_ s i=237∧160≤at_ s (i+1)) then 0 else 3)
 else if 240≤at_ s i∧at_ s i<245∧ct s (i+1)=true∧ct s (i+2)=true∧ct s (i+3)=true then
  (if (at_ s i=240∧at_ s (i+1)<144)∨(at_ s i=244∧144≤at_ s (i+1)) then 0 else 4)
 else 0
def code (s:List UInt8) (i:Nat):Nat :=
 if at_ s i<128 then at_ s i
 else if at_ s i<224 then at_ s i % 32 * 64+at_ s (i+1) % 64
 else if at_ s i<240 then at_ s i % 16 * 4096+at_ s (i+1) % 64 * 64+at_ s (i+2) % 64
 else at_ s i % 8 * 262144+at_ s (i+1) % 64 * 4096+at_ s (i+2) % 64 * 64+at_ s (i+3) % 64
theorem get_at (s:List UInt8) (k:Nat):((⟨⟨s⟩⟩:ByteArray).get! k).toNat=at_ s k:=by
 simp only [ByteArray.get!,at_,List.getD_eq_getElem?_getD]
 by_cases h:k<s.length
 ·simp [h]
 ·simp [h];rfl
theorem J3 {s:List UInt8} {k:Nat}:ct s k=true ↔ k<s.length∧at_ s k / 64=2:=by
 simp only [ct,Bool.and_eq_true,decide_eq_true_eq]
 omega
theorem Jf4 (c:Nat):Utf8.valid (c:Int)=true ↔ c<55296∨(57344≤c∧c≤1114111):=by
 simp only [Utf8.valid,Bool.or_eq_true,Bool.and_eq_true,decide_eq_true_eq]
 omega
theorem F1 (s:List UInt8) (i:Nat):dec s i=if rlen s i=0 then (65533,1) else (code s i,rlen s i):=by
 have hb:=Fr s i
 unfold dec Utf8.decode
 simp only [get_at,Nat.add_zero]
 have hsz:(⟨⟨s⟩⟩:ByteArray).size=s.length:=rfl
 simp only [hsz,Bool.and_eq_true,beq_iff_eq,decide_eq_true_eq,Utf8.runeError,Jf4]
 unfold rlen code
 simp only [J3]
 by_cases h1:at_ s i<128
 ·simp [h1]
 by_cases h2:at_ s i<224
 ·by_cases h2':i+1<s.length∧at_ s (i+1) / 64=2
  ·have e5:¬ 224≤at_ s i:=by omega
   have e6:¬ 240≤at_ s i:=by omega
   by_cases h194:194≤at_ s i
   ·have e1:at_ s i / 32=6:=by omega
    have e2:128≤at_ s i % 32 * 64+at_ s (i+1) % 64:=by omega
    simp [h1,h2,h2',h194,e1,e2]
   ·by_cases h192:192≤at_ s i
    ·have e1:at_ s i / 32=6:=by omega
     have e2:¬ 128≤at_ s i % 32 * 64+at_ s (i+1) % 64:=by omega
     simp [h1,h2,h2',h194,e1,e2,e5,e6]
    ·have e1:¬ at_ s i / 32=6:=by omega
     have e3:¬ at_ s i / 16=14:=by omega
     have e4:¬ at_ s i / 8=30:=by omega
     simp [h1,h2,h2',h194,e1,e3,e4,e5,e6]
  ·have e3:¬ at_ s i / 16=14:=by omega
   have e4:¬ at_ s i / 8=30:=by omega
   have e5:¬ 224≤at_ s i:=by omega
   have e6:¬ 240≤at_ s i:=by omega
   simp [h1,h2,h2',e3,e4,e5,e6]
 have e1:¬ at_ s i / 32=6:=by omega
 by_cases h3:at_ s i<240
 ·have e3:at_ s i / 16=14:=by omega
  have e4:¬ at_ s i / 8=30:=by omega
  have e5:224≤at_ s i:=by omega
  have e6:¬ 240≤at_ s i:=by omega
  by_cases c1:i+1<s.length∧at_ s (i+1) / 64=2
  ·by_cases c2:i+2<s.length∧at_ s (i+2) / 64=2
   ·by_cases hb2:(at_ s i=224∧at_ s (i+1)<160)∨(at_ s i=237∧160≤at_ s (i+1))
    ·have:¬ (2048≤at_ s i % 16 * 4096+at_ s (i+1) % 64 * 64+at_ s (i+2) % 64∧(at_ s i % 16 * 4096+at_ s (i+1) % 64 * 64+at_ s (i+2) % 64<55296∨57344≤at_ s i % 16 * 4096+at_ s (i+1) % 64 * 64+at_ s (i+2) % 64∧at_ s i % 16 * 4096+at_ s (i+1) % 64 * 64+at_ s (i+2) % 64≤1114111)):=by omega
     simp only [h1,h2,e1,e3,e5,h3,c1,c2,hb2,and_true,true_and,if_true,if_false,false_and,and_false,and_self,ge_iff_le,this]
    ·have:(2048≤at_ s i % 16 * 4096+at_ s (i+1) % 64 * 64+at_ s (i+2) % 64∧(at_ s i % 16 * 4096+at_ s (i+1) % 64 * 64+at_ s (i+2) % 64<55296∨57344≤at_ s i % 16 * 4096+at_ s (i+1) % 64 * 64+at_ s (i+2) % 64∧at_ s i % 16 * 4096+at_ s (i+1) % 64 * 64+at_ s (i+2) % 64≤1114111)):=by omega
     simp only [h1,h2,e1,e3,e5,h3,c1,c2,hb2,and_true,true_and,if_true,if_false,false_and,and_false,and_self,ge_iff_le,this]
     simp
   ·simp [h1,h2,e1,e3,e4,e5,e6,h3,c2]
  ·simp [h1,h2,e1,e3,e4,e5,e6,h3,c1]
 ·have e3:¬ at_ s i / 16=14:=by omega
  have e5:240≤at_ s i:=by omega
  by_cases h4:at_ s i<248
  ·have e4:at_ s i / 8=30:=by omega
   by_cases c1:i+1<s.length∧at_ s (i+1) / 64=2
   ·by_cases c2:i+2<s.length∧at_ s (i+2) / 64=2
    ·by_cases c3:i+3<s.length∧at_ s (i+3) / 64=2
     ·by_cases h5:at_ s i<245
      ·by_cases hb2:(at_ s i=240∧at_ s (i+1)<144)∨(at_ s i=244∧144≤at_ s (i+1))
       ·have:¬ (65536≤at_ s i % 8 * 262144+at_ s (i+1) % 64 * 4096+at_ s (i+2) % 64 * 64+at_ s (i+3) % 64∧(at_ s i % 8 * 262144+at_ s (i+1) % 64 * 4096+at_ s (i+2) % 64 * 64+at_ s (i+3) % 64<55296∨57344≤at_ s i % 8 * 262144+at_ s (i+1) % 64 * 4096+at_ s (i+2) % 64 * 64+at_ s (i+3) % 64∧at_ s i % 8 * 262144+at_ s (i+1) % 64 * 4096+at_ s (i+2) % 64 * 64+at_ s (i+3) % 64≤1114111)):=by omega
        simp only [h1,h2,h3,e1,e3,e4,e5,h5,c1,c2,c3,hb2,and_true,true_and,if_true,if_false,false_and,and_false,and_self,ge_iff_le,this]
       ·have:(65536≤at_ s i % 8 * 262144+at_ s (i+1) % 64 * 4096+at_ s (i+2) % 64 * 64+at_ s (i+3) % 64∧(at_ s i % 8 * 262144+at_ s (i+1) % 64 * 4096+at_ s (i+2) % 64 * 64+at_ s (i+3) % 64<55296∨57344≤at_ s i % 8 * 262144+at_ s (i+1) % 64 * 4096+at_ s (i+2) % 64 * 64+at_ s (i+3) % 64∧at_ s i % 8 * 262144+at_ s (i+1) % 64 * 4096+at_ s (i+2) % 64 * 64+at_ s (i+3) % 64≤1114111)):=by omega
        simp only [h1,h2,h3,e1,e3,e4,e5,h5,c1,c2,c3,hb2,and_true,true_and,if_true,if_false,false_and,and_false,and_self,ge_iff_le,this]
        simp
      ·have:¬ (65536≤at_ s i % 8 * 262144+at_ s (i+1) % 64 * 4096+at_ s (i+2) % 64 * 64+at_ s (i+3) % 64∧(at_ s i % 8 * 262144+at_ s (i+1) % 64 * 4096+at_ s (i+2) % 64 * 64+at_ s (i+3) % 64<55296∨57344≤at_ s i % 8 * 262144+at_ s (i+1) % 64 * 4096+at_ s (i+2) % 64 * 64+at_ s (i+3) % 64∧at_ s i % 8 * 262144+at_ s (i+1) % 64 * 4096+at_ s (i+2) % 64 * 64+at_ s (i+3) % 64≤1114111)):=by omega
       simp only [h1,h2,h3,e1,e3,e4,e5,h5,c1,c2,c3,and_true,true_and,if_true,if_false,false_and,and_false,and_self,ge_iff_le,this]
     ·simp [h1,h2,h3,e1,e3,e4,e5,c3]
    ·simp [h1,h2,h3,e1,e3,e4,e5,c2]
   ·simp [h1,h2,h3,e1,e3,e4,e5,c1]
  ·have e4:¬ at_ s i / 8=30:=by omega
   have h5:¬ at_ s i<245:=by omega
   simp [h1,h2,h3,e1,e3,e4,e5,h5]
end Go.LX
