/- Types that are right, the document's answer: parts, leads. -/
import Derived.Test.YtpaiiekgdgjjnaaGreatDoorLxW
import Derived.Test.YtpaiiekgdgjjnaaGreatDoorLxT
import Derived.Test.YtpaiiekgdgjjnaaGreatDoorLxS
import Derived.Test.YtpaiiekgdgjjnaaGreatDoorProg
import Derived.WalkKit
import Derived.WalkSpells
import Derived.Lib.ConvBytes
import Derived.Lib.SlBytesRow
import Derived.Lib.AtoiErrMem
set_option linter.unusedSimpArgs false
set_option linter.unusedVariables false
set_option linter.unusedSectionVars false
set_option linter.unnecessarySimpa false
set_option maxRecDepth 100000
set_option maxHeartbeats 2000000
namespace Go.LX
open Go Go.RowKit Go.Proofs
attribute [local irreducible] Al SWP Bi
open Classical in
noncomputable def J1y (k:Int) (l:List RKT):Bool:=decide (Jr1 k l)
theorem J7i {k:Int} {l:List RKT} (h:Jr1 k l):true=J1y k l:=by unfold J1y;exact (@decide_eq_true _ (Classical.propDecidable _) h).symm
theorem J7o {k:Int} {l:List RKT} (h:¬ Jr1 k l):false=J1y k l:=by unfold J1y;exact (@decide_eq_false _ (Classical.propDecidable _) h).symm
def Jwg (k:Int) (j:Nat) (last:List UInt8) (l:List RKT):Prop:=Jr1 k l∧(k=2→j≠0→∀ q,l.head? = some q→Op.bytesLess last q.1=true)
theorem J6u (k:Int) (j:Nat) (last:List UInt8):Jwg k j last []:=⟨Ju3 k,fun _ _ q h=>by cases h⟩
theorem J42 {k:Int} {j:Nat} {last:List UInt8} {p:RKT} {l:List RKT}:Jwg k j last (p :: l) ↔ (Jx0 k p∧(k=2→j≠0→Op.bytesLess last p.1=true))∧Jwg k (j+1) p.1 l:=by
 unfold Jwg;rw [J3h];constructor
 ·rintro ⟨⟨h1,h2,h3⟩,h4⟩;exact ⟨⟨h1,fun hk hj=>h4 hk hj p rfl⟩,h3,fun hk _ q hq=>h2 hk q hq⟩
 ·rintro ⟨⟨h1,h2⟩,h3,h4⟩;exact ⟨⟨h1,fun hk q hq=>h4 hk omg q hq,h3⟩,fun hk hj q hq=>by cases hq;exact h2 hk hj⟩
theorem Jz9 {v:List YRow} {j:Nat} {nm:List UInt8} {t:RT} {b:List YRow} (h:v.drop j=t.enc nm ++ b):∃ (n:Int) (s:List UInt8) (g:Int) (e:Node),(rowL v)[j]? = some [.int .i64 t.kind,.int .i64 n,.str nm,.str s,.int .i64 g,.int .i64 e.kind,.int .i64 e.many,.str e.name,.str e.s,.bool e.neg,.int .i64 e.e]:=by
 cases t with
 | mk k s g e kids =>
  rw [Jqo] at h;exact ⟨kids.len,s,g,e,Jsa h⟩
theorem J8l (v:List YRow) (i:Nat) (nm:List UInt8) (k:Int) (s:List UInt8) (g:Int) (e:Node) (kids:RF) (rest:List YRow) (hv:v.length≤1000000) (h:v.drop i=(RT.mk k s g e kids).enc nm ++ rest) (hs:∀ n∈v,n.name.length≤1000000):Det cx 244 [.p (.sl (rowL v)),.p (.int .i64 i)] [] (.p (.bool (J1y k kids.list))) []:=by
 have hll:=Jq3 kids;rw [Jqo] at h;have hg0:=Jsa h;rw [Jq9] at hg0;have hb:=Jvf h sm;simp only [List.cons_append,List.length_cons,List.length_append] at hb;have w0:=wj1 (i:=i) omg;(refine bgo Tryz.func244 ?_;simp only [go_sem,simprocAttr,w0]);refine SWP.loop (fun x:Nat×Nat×RF×List UInt8=>⟨Ba 74 [(0,.p (.sl (rowL v))),(1,.p (.int .i64 i)),(5,.p (.int .i64 x.2.1)),(6,.p (.str x.2.2.2)),(7,.p (.int .i64 x.1))],[]⟩) (fun x=>x.1+x.2.2.1.len=kids.len∧v.drop x.2.1=x.2.2.1.enc ++ rest∧x.2.1+x.2.2.1.enc.length=i+1+kids.enc.length∧(Jr1 k kids.list ↔ Jwg k x.1 x.2.2.2 x.2.2.1.list)) (fun x=>x.2.2.1.enc.length) (0,i+1,kids,[]) Jqb ⟨by simp,by simp only;rw [← List.drop_drop,h];rfl,by simp only,⟨fun h=>⟨h,fun _ h=>absurd rfl h⟩,fun h=>h.1⟩⟩ ?_;rintro ⟨j,a,F,last⟩ ⟨h1,h2,h3,h4⟩;simp only at h1 h2 h3 h4
 match F,h1,h2,h3,h4 with
 | .nil,h1,h2,h3,h4 =>
  simp only [RF.len] at h1;have c1:((j:Int)<(kids.len:Int))=False:=eq_false omg;have hK:=h4.2 (J6u k j last);(refine lws ?_;simp only [go_sem,simprocAttr,hg0,c1]);exact J7i hK
 | .cons nm' t r,h1,h2,h3,h4 =>
  rw [Jr3] at h1;rw [Jqg] at h2 h3;have hp:=Jso t nm';simp only [List.length_append] at h3;obtain ⟨n',s',g',e',hga⟩:=Jz9 (v:=v) (j:=a) (nm:=nm') (t:=t) (b:=r.enc ++ rest) (by rw [h2,List.append_assoc]);have c1:((j:Int)<(kids.len:Int))=True:=eq_true omg;rw [RF.list,J42] at h4;simp only at h4;have w1:=wj1 (i:=j) omg;have hnl:nm'.length≤1000000:=by
   have hd2:v.drop a=t.enc nm' ++ (r.enc ++ rest):=by rw [h2,List.append_assoc]
   cases t with
   | mk k2 s2 g2 e2 kk2 =>
    rw [Jqo] at hd2;have hm:(⟨k2,kk2.len,nm',s2,g2,e2⟩:YRow)∈v.drop a:=by rw [hd2];exact List.mem_cons_self
    exact hs _ (List.mem_of_mem_drop hm)
  have hNx:=J3e v a nm' t (r.enc ++ rest) hv (by rw [h2,List.append_assoc]);have hd:v.drop (a+(t.enc nm').length)=r.enc ++ rest:=by rw [← List.drop_drop,h2,List.append_assoc,List.drop_left]
  have hno:¬ (Jx0 k (nm',t)∧(k=2→j≠0→Op.bytesLess last nm'=true))→false=J1y k kids.list:=fun hn=>J7o fun hk=>hn (h4.1 hk).1
  have hyes:(Jx0 k (nm',t)∧(k=2→j≠0→Op.bytesLess last nm'=true))→(Jr1 k kids.list ↔ Jwg k (j+1) nm' r.list):=fun hy=>h4.trans ⟨fun h=>h.2,fun h=>⟨hy,h⟩⟩
  have hle:=J7j nm' last;have hU:=Cn nm' hnl;have hfin:Jx0 k (nm',t)∧(k=2→j≠0→Op.bytesLess last nm'=true)→∃ y:Nat×Nat×RF×List UInt8,(y.1+y.2.2.1.len=kids.len∧v.drop y.2.1=y.2.2.1.enc ++ rest∧y.2.1+y.2.2.1.enc.length=i+1+kids.enc.length∧(Jr1 k kids.list ↔ Jwg k y.1 y.2.2.2 y.2.2.1.list))∧y.2.2.1.enc.length<(RF.cons nm' t r).enc.length∧y=(j+1,a+(t.enc nm').length,r,nm'):=fun hy =>
   ⟨(j+1,a+(t.enc nm').length,r,nm'),⟨by simp only;omega,hd,by simp only;omega,hyes hy⟩,by simp only [Jqg,List.length_append];omega,rfl⟩
  by_cases hk2:k=2
  ·subst hk2;by_cases ht9:t.kind=9
   ·have e9:(t.kind == 9)=true:=by rw [ht9];rfl
    have b1:((2:Int) == 1)=false:=rfl;(refine lws ?_;simp only [go_sem,simprocAttr,hg0,c1,hga,decide_true]);(repeat' (first | ((refine Jqk ?_);simp only [go_sem,simprocAttr,hg0,Bool.bne_false,e9,b1]) | fail))
    all_goals exact hno fun h=>by have:=h.1.1.1 ht9;omega
   ·have e9:(t.kind == 9)=false:=by simpa using ht9
    have b1:((2:Int) == 1)=false:=rfl;cases hva:valid nm' with
    | false =>
     rw [hva] at hU;(refine lws ?_;simp only [go_sem,simprocAttr,hg0,c1,hga,decide_true]);(repeat' (first | ((first | (refine Jqk ?_)|(refine Jqa (hU) ?_));simp only [go_sem,simprocAttr,hg0,Bool.not_false,bne_self_eq_false,e9,b1,Bool.not_false]) | fail))
     all_goals exact hno fun h=>by have:=h.1.2.2 rfl;simp only at this;rw [hva] at this;cases this
    | true =>
     rw [hva] at hU;by_cases hj0:j=0
     ·have c4:((0:Int)<(j:Int))=False:=eq_false omg;obtain ⟨y,p1,p2,rfl⟩:=hfin ⟨⟨⟨fun h=>absurd h ht9,fun h=>absurd h de⟩,fun h=>absurd rfl h,fun _=>hva⟩,fun _ h=>absurd hj0 h⟩;(refine lws ?_;simp only [go_sem,simprocAttr,hg0,c1,hga,decide_true]);(repeat' (first | ((first | (refine Jqk ?_)|(refine Jqa (hU) ?_)|(refine Jqa (hNx) ?_));simp only [go_sem,simprocAttr,hg0,decide_false,Bool.not_true,bne_self_eq_false,e9,b1,c4,w1,Bool.not_true]) | fail));exact ⟨_,p1,p2,Jqb⟩
     ·have c4:((0:Int)<(j:Int))=True:=eq_true omg;cases hbl:Op.bytesLess last nm' with
      | true =>
       rw [hbl,Bool.not_true] at hle;obtain ⟨y,p1,p2,rfl⟩:=hfin ⟨⟨⟨fun h=>absurd h ht9,fun h=>absurd h de⟩,fun h=>absurd rfl h,fun _=>hva⟩,fun _ _=>hbl⟩;(refine lws ?_;simp only [go_sem,simprocAttr,hg0,c1,hga,decide_true]);(repeat' (first | ((first | (refine Jqk ?_)|(refine Jqa (hU) ?_)|(refine Jqa (hNx) ?_));simp only [go_sem,simprocAttr,hg0,decide_true,Bool.not_true,bne_self_eq_false,e9,b1,c4,hle,w1,Bool.not_true]) | fail));exact ⟨_,p1,p2,Jqb⟩
      | false =>
       rw [hbl,Bool.not_false] at hle;(refine lws ?_;simp only [go_sem,simprocAttr,hg0,c1,hga,decide_true]);(repeat' (first | ((first | (refine Jqk ?_)|(refine Jqa (hU) ?_));simp only [go_sem,simprocAttr,hg0,decide_true,Bool.not_true,bne_self_eq_false,e9,b1,c4,hle,Bool.not_true]) | fail))
       all_goals exact hno fun h=>by have:=h.2 rfl hj0;rw [hbl] at this;cases this
  ·have e2:=eq_false hk2;by_cases hkd:(t.kind=9 ↔ k=1)
   ·by_cases hnm:nm'=[]
    ·have en:=eq_true hnm;obtain ⟨y,p1,p2,rfl⟩:=hfin ⟨⟨hkd,fun _=>hnm,fun h=>absurd h hk2⟩,fun h=>absurd h hk2⟩;by_cases hk1:k=1
     ·have e1:=eq_true hk1;have b1:(k == 1)=true:=by rw [hk1];rfl
      have e9:(t.kind == 9)=true:=by rw [hkd.2 hk1];rfl
      (refine lws ?_;simp only [go_sem,simprocAttr,hg0,c1,hga,decide_true]);(repeat' (first | ((first | (refine Jqk ?_)|(refine Jqa (hNx) ?_));simp only [go_sem,simprocAttr,hg0,Bool.not_true,bne_self_eq_false,e2,e9,b1,en,w1]) | fail));exact ⟨_,p1,p2,Jqb⟩
     ·have e1:=eq_false hk1;have b1:(k == 1)=false:=by simpa using hk1
      have e9:(t.kind == 9)=false:=by simpa using (fun h=>hk1 (hkd.1 h))
      (refine lws ?_;simp only [go_sem,simprocAttr,hg0,c1,hga,decide_true]);(repeat' (first | ((first | (refine Jqk ?_)|(refine Jqa (hNx) ?_));simp only [go_sem,simprocAttr,hg0,Bool.not_true,bne_self_eq_false,e2,e9,b1,en,w1]) | fail));exact ⟨_,p1,p2,Jqb⟩
    ·have en:=eq_false hnm;by_cases hk1:k=1
     ·have e1:=eq_true hk1;have b1:(k == 1)=true:=by rw [hk1];rfl
      have e9:(t.kind == 9)=true:=by rw [hkd.2 hk1];rfl
      (refine lws ?_;simp only [go_sem,simprocAttr,hg0,c1,hga,decide_true]);(repeat' (first | ((refine Jqk ?_);simp only [go_sem,simprocAttr,hg0,Bool.not_true,bne_self_eq_false,e2,e9,b1,en]) | fail))
      all_goals exact hno fun h=>hnm (h.1.2.1 hk2)
     ·have e1:=eq_false hk1;have b1:(k == 1)=false:=by simpa using hk1
      have e9:(t.kind == 9)=false:=by simpa using (fun h=>hk1 (hkd.1 h))
      (refine lws ?_;simp only [go_sem,simprocAttr,hg0,c1,hga,decide_true]);(repeat' (first | ((refine Jqk ?_);simp only [go_sem,simprocAttr,hg0,Bool.not_true,bne_self_eq_false,e2,e9,b1,en]) | fail))
      all_goals exact hno fun h=>hnm (h.1.2.1 hk2)
   ·by_cases hk1:k=1
    ·have e1:=eq_true hk1;have b1:(k == 1)=true:=by rw [hk1];rfl
     have e9:(t.kind == 9)=false:=by simpa using (fun h:t.kind=9=>hkd ⟨fun _=>hk1,fun _=>h⟩)
     (refine lws ?_;simp only [go_sem,simprocAttr,hg0,c1,hga,decide_true]);(repeat' (first | ((refine Jqk ?_);simp only [go_sem,simprocAttr,hg0,Bool.bne_true,Bool.not_false,e9,b1]) | fail))
     all_goals exact hno fun h=>hkd h.1.1
    ·have e1:=eq_false hk1;have b1:(k == 1)=false:=by simpa using hk1
     have e9:(t.kind == 9)=true:=beq_iff_eq.2 (show t.kind=9 from Decidable.not_not.1 fun h:¬ t.kind=9=>hkd ⟨fun a=>absurd a h,fun a=>absurd a hk1⟩);(refine lws ?_;simp only [go_sem,simprocAttr,hg0,c1,hga,decide_true]);(repeat' (first | ((refine Jqk ?_);simp only [go_sem,simprocAttr,hg0,Bool.bne_false,e9,b1]) | fail))
     all_goals exact hno fun h=>hkd h.1.1
def Juz (name:List UInt8):List RKT→Option (Nat×RT)
 | []=>none
 | p :: l=>if p.1=name then some (0,p.2) else (Juz name l).map fun x=>(x.1+(p.2.enc p.1).length,x.2)
def Jtw:RT→List Step→Option Nat
 | _,[]=>some 0
 | t,x :: p=>if t.kind=2∧x.part=false then (match Juz x.name t.kids.list with
  | some y=>(Jtw y.2 p).map fun o=>1+y.1+o
  | none=>none) else none
def Jw3 (i:Nat) (o:Option Nat):Int:=match o with
 | some o=>((i+o:Nat):Int)
 | none=>-1
theorem J00 {name:List UInt8}:∀ {f:RF},match Juz name f.list with
  | some y=>Jxb name f.list=some y.2∧∃ b,f.enc.drop y.1=y.2.enc name ++ b
  | none=>Jxb name f.list=none
 | .nil=>rfl
 | .cons nm t r=>by
  have ih:=J00 (name:=name) (f:=r);rw [RF.list,Juz,Jxb];by_cases hn:nm=name
  ·subst hn;rw [if_pos rfl,if_pos rfl];exact ⟨rfl,r.enc,by rw [Jqg];rfl⟩
  ·rw [if_neg hn,if_neg hn];cases hf:Juz name r.list with
   | none=>rw [hf] at ih;exact ih
   | some y =>
    rw [hf] at ih;obtain ⟨h1,b,h2⟩:=ih;refine ⟨h1,b,?_⟩;rw [Jqg];show (t.enc nm ++ r.enc).drop (y.1+(t.enc nm).length)=y.2.enc name ++ b;rw [Nat.add_comm,← List.drop_drop,List.drop_left,h2]
theorem Jzs:∀ {p:List Step} {t:RT} {nm:List UInt8},match Jtw t p with
  | some o=>∃ u nm' b,Jvy t p=some u∧(t.enc nm).drop o=u.enc nm' ++ b
  | none=>Jvy t p=none
 | [],t,nm=>⟨t,nm,[],Jxz t,by rw [List.drop_zero,List.append_nil]⟩
 | x :: p,.mk k s n c kids,nm=>by
  rw [Jtw,Jzi];by_cases hk:(RT.mk k s n c kids).kind=2∧x.part=false
  ·rw [if_pos hk,if_pos hk];have hf:=J00 (name:=x.name) (f:=kids);rw [show (RT.mk k s n c kids).kids=kids from rfl];cases hfo:Juz x.name kids.list with
   | none=>rw [hfo] at hf;simp only at hf ⊢;rw [hf];rfl
   | some y =>
    rw [hfo] at hf;obtain ⟨h1,b,h2⟩:=hf;have ih:=Jzs (p:=p) (t:=y.2) (nm:=x.name);simp only;rw [h1];cases hl:Jtw y.2 p with
    | none=>rw [hl] at ih;exact ih
    | some o =>
     rw [hl] at ih;obtain ⟨u,nm',b',g1,g2⟩:=ih;refine ⟨u,nm',b' ++ b,g1,?_⟩;have ho:o≤(y.2.enc x.name).length:=by
      have hpos:=Jso u nm';have:=congrArg List.length g2;rw [List.length_drop,List.length_append] at this;omega
     show ((RT.mk k s n c kids).enc nm).drop (1+y.1+o)=u.enc nm' ++ (b' ++ b)
     rw [Jqo,show 1+y.1+o=(y.1+o)+1 by omega,List.drop_succ_cons,← List.drop_drop,h2,List.drop_append_of_le_length ho,g2,List.append_assoc]
  ·rw [if_neg hk,if_neg hk]
theorem d_lead:∀ (p:List Step) (t:RT) (v:List YRow) (i:Nat) (nm:List UInt8) (rest:List YRow),v.length≤1000000→p.length≤1000000→v.drop i=t.enc nm ++ rest→Det cx 245 [.p (.sl (rowL v)),.p (.int .i64 i),.p (.sl (Bb p))] [] (.p (.int .i64 (Jw3 i (Jtw t p)))) []
 | [],t,v,i,nm,rest,hv,hp,h=>by
  have c0:(((Bb []).length:Int)=0)=True:=eq_true rfl;have hl0:Jw3 i (Jtw t [])=(i:Int):=by cases t;rfl
  rw [hl0];(refine bgo Tryz.func245 ?_;simp only [go_sem,simprocAttr,c0])
  skip
 | x :: p,.mk k s g e kids,v,i,nm,rest,hv,hp,h=>by
  have ih:=fun (t:RT) (i:Nat) (nm:List UInt8) (rest:List YRow) (h:v.drop i=t.enc nm ++ rest)=>d_lead p t v i nm rest hv (by simp at hp;omega) h
  rw [Jqo] at h;have hg0:=Jsa h;rw [Jq9] at hg0;have hb:=Jvf h sm;simp only [List.cons_append,List.length_cons,List.length_append] at hb;have hll:=Jq3 kids;have hp0:(Bb (x :: p))[0]? = some [.bool x.part,.str x.name,.int .i64 x.n]:=rfl;have hpl:(Bb (x :: p)).length=p.length+1:=by simp [Bb]
  have c0:(((p.length+1:Nat):Int)=0)=False:=eq_false omg;have hsl:((Bb (x :: p)).drop 1).take (p.length+1 - 1)=Bb p:=by
   rw [show Bb (x :: p)=x.cells :: Bb p from rfl,List.drop_succ_cons,List.drop_zero,Nat.add_sub_cancel,List.take_of_length_le (by simp [Bb])]
  have hel3:∀ q∈Bb (x :: p),q.length=3:=by
   intro q hq;obtain ⟨y,_,rfl⟩:=List.mem_map.1 hq;rfl
  have w0:=wj1 (i:=i) omg;by_cases hk:k=2
  ·have e2:=eq_true hk;cases hpt:x.part with
   | true =>
    rw [hpt] at hp0;rw [show Jw3 i (Jtw (.mk k s g e kids) (x :: p)) = -1 by rw [Jtw,if_neg (by rw [hpt];simp)];rfl];(refine bgo Tryz.func245 ?_;simp only [go_sem,simprocAttr,hg0,hp0,hpl,c0,e2,not_true_eq_false])
    skip
   | false =>
    rw [hpt] at hp0;rw [Jtw,if_pos ⟨hk,hpt⟩,show (RT.mk k s g e kids).kids=kids from rfl];(refine bgo Tryz.func245 ?_;simp only [go_sem,simprocAttr,hg0,hp0,hpl,c0,e2,w0,not_true_eq_false]);refine SWP.loop (fun y:Nat×Nat×RF=>⟨Ba 54 [(0,.p (.sl (rowL v))),(1,.p (.int .i64 i)),(2,.p (.sl (Bb (x :: p)))),(7,.p (.int .i64 y.2.1)),(8,.p (.int .i64 y.1))],[]⟩) (fun y=>y.1+y.2.2.len=kids.len∧v.drop y.2.1=y.2.2.enc ++ rest∧y.2.1+y.2.2.enc.length=i+1+kids.enc.length∧i+1≤y.2.1∧Juz x.name kids.list=(Juz x.name y.2.2.list).map fun z=>(z.1+(y.2.1 - (i+1)),z.2)) (fun y=>y.2.2.enc.length) (0,i+1,kids) Jqb ⟨by simp,by simp only;rw [← List.drop_drop,h];rfl,by simp only,Nat.le_refl _,by simp⟩ ?_;rintro ⟨j,a,F⟩ ⟨h1,h2,h3,h5,h4⟩;simp only at h1 h2 h3 h4 h5
    match F,h1,h2,h3,h4 with
    | .nil,h1,h2,h3,h4 =>
     simp only [RF.len] at h1;have c1:((j:Int)<(kids.len:Int))=False:=eq_false omg;have h4:Juz x.name kids.list=none:=h4;rw [h4];(refine lws ?_;simp only [go_sem,simprocAttr,hg0,decide_false,c1])
     all_goals rfl
    | .cons nm' t r,h1,h2,h3,h4 =>
     rw [Jr3] at h1;rw [Jqg] at h2 h3;have hp:=Jso t nm';simp only [List.length_append] at h3;have h2':v.drop a=t.enc nm' ++ (r.enc ++ rest):=by rw [h2,List.append_assoc]
     obtain ⟨k',n',s',g',e',hga⟩:=J1t h2';have c1:((j:Int)<(kids.len:Int))=True:=eq_true omg;rw [RF.list,Juz] at h4;simp only at h4;by_cases hn:nm'=x.name
     ·rw [if_pos hn] at h4;have en:=eq_true hn;have hL:=ih t a nm' (r.enc ++ rest) h2';have h4:Juz x.name kids.list=some (0+(a - (i+1)),t):=h4;rw [h4];have hres:Jw3 i ((Jtw t p).map fun o=>1+(0+(a - (i+1)))+o)=Jw3 a (Jtw t p):=by
       cases Jtw t p with
       | none=>rfl
       | some o=>simp only [Jw3,Option.map_some];omega
      simp only;rw [hres];(refine lws ?_;simp only [go_sem,simprocAttr,hg0,c1]);(repeat' (first | (refine And.intro hel3 ?_)|(refine Jqe ?_)|((first | (refine Jqk ?_)|(refine Jqa (hL) ?_));simp only [go_sem,simprocAttr,hp0,hpl,hga,en]) | fail))
     ·rw [if_neg hn] at h4;have en:=eq_false hn;have hNx:=J3e v a nm' t (r.enc ++ rest) hv h2';have w1:=wj1 (i:=j) omg;(refine lws ?_;simp only [go_sem,simprocAttr,hg0,c1]);(repeat' (first | ((first | (refine Jqk ?_)|(refine Jqa (hNx) ?_));simp only [go_sem,simprocAttr,hp0,hga,en,w1]) | fail));refine ⟨(j+1,a+(t.enc nm').length,r),⟨by simp only;omega,by simp only;rw [← List.drop_drop,h2',List.drop_left],by simp only;omega,by simp only;omega,?_⟩,by simp only [Jqg,List.length_append];omega,Jqb⟩;simp only;rw [h4,Option.map_map];congr 1;funext z;simp only [Function.comp];congr 1;omega
  ·have e2:=eq_false hk;rw [show Jw3 i (Jtw (.mk k s g e kids) (x :: p)) = -1 by rw [Jtw,if_neg (fun h=>hk h.1)];rfl];(refine bgo Tryz.func245 ?_;simp only [go_sem,simprocAttr,hg0,hpl,c0,e2,not_false_eq_true])
   skip
structure RowFit (r:YRow):Prop where
 s:r.s.length≤1000000
 name:r.name.length≤1000000
 c:NodeFitC r.c
theorem J2s (v:List YRow) (hv:v.length≤10000) (hf:∀ n∈v,RowFit n):Det cx 197 [.p (.sl (rowL v))] [] (.p (.bool (Jtk v))) []:=by
 cases v with
 | nil =>
  have hb:false=Jtk []:=Js8 (by
   rintro ⟨t,_,_,h⟩;have:=congrArg List.length h;have h1:=Jso t [];simp at this;omega)
  have c0:(((rowL []).length:Int)=0)=True:=eq_true rfl;rw [← hb];(refine bgo Tryz.func197 ?_;simp only [go_sem,simprocAttr,c0])
  skip
 | cons n r =>
  have hg0:=Jue (v:=n :: r) (i:=0) (n:=n) rfl;have c0:(((n :: r).length:Int)=0)=False:=eq_false (by simp;omega);have hN:=J5x (n :: r) hv;generalize hvv:n :: r=v at *
  by_cases hnm:n.name=[]
  ·have c2:=eq_true hnm;by_cases hn9:n.kind=9
   ·have c9:=eq_true hn9;have hb:=Js8 (v:=v) (by
     rintro ⟨t,_,h9,h⟩;cases t with
     | mk k s g e kids =>
      rw [Jqo,← hvv] at h;have:=(List.cons.inj h).1;rw [this] at hn9;exact h9 hn9)
    rw [← hb];(refine bgo Tryz.func197 ?_;simp only [go_sem,simprocAttr,Jqi,hg0,c0,c2,c9,not_true_eq_false])
    skip
   ·have c9:=eq_false hn9;by_cases hnx:Jsw v 0 1=v.length
    ·obtain ⟨nm,t,ht⟩:=J6w hnx;have htk:nm=[]∧t.kind≠9:=by
      cases t with
      | mk k s g e kids =>
       rw [Jqo,← hvv] at ht;have:=(List.cons.inj ht).1;rw [this] at hnm hn9;exact ⟨hnm,hn9⟩
     obtain ⟨rfl,ht9⟩:=htk;have c3:(Jsw v 0 1=(v.length:Int))=True:=eq_true hnx;(refine bgo Tryz.func197 ?_;simp only [go_sem,simprocAttr,Jqi,hg0,c0,c2,c9,not_true_eq_false]);(repeat' (first | ((refine Jqa (hN) ?_);simp only [go_sem,simprocAttr,Jqi,c3,not_true_eq_false]) | fail));have hB:∀ b:Bool,(b=true ↔ okR t)→b=Jtk v:=by
      intro b hb;rw [Bool.eq_iff_iff,hb,Jt4,ht,J5n];exact ⟨fun h=>⟨h,ht9⟩,fun h=>h.1⟩
     refine SWP.loop (fun x:Nat×RF=>⟨Ba 87 [(0,.p (.sl (rowL v))),(3,.p (.int .i64 x.1))],[]⟩) (fun x=>v.drop x.1=x.2.enc∧x.1+x.2.enc.length=v.length∧(okR t ↔ okRF x.2)) (fun x=>v.length - x.1) (0,.cons [] t .nil) Jqb ⟨by rw [Jqg,Jq2,List.append_nil,List.drop_zero,ht],by rw [Jqg,Jq2,List.append_nil,ht];simp,by rw [Jsp];exact ⟨fun h=>⟨h,Jtb⟩,fun h=>h.1⟩⟩ ?_;rintro ⟨i,F⟩ ⟨h1,h2,h3⟩;simp only at h1 h2 h3
     match F,h1,h2,h3 with
     | .nil,h1,h2,h3 =>
      rw [Jq2] at h2;have c4:((i:Int)<(v.length:Int))=False:=eq_false (by simp at h2;omega);(refine lws ?_;simp only [go_sem,simprocAttr,Jqi,decide_false,c4]);exact hB true (by rw [h3];simp [Jtb])
     | .cons nm' (.mk k s g e kids) r,h1,h2,h3 =>
      rw [Jqg,Jqo] at h1 h2;simp only [List.length_append,List.length_cons] at h2;have c4:((i:Int)<(v.length:Int))=True:=eq_true omg;have hga:=Jsa h1;rw [Jq9] at hga;have w1:=wj1 (i:=i) omg;rw [J2i] at h3;have hmem:(⟨k,kids.len,nm',s,g,e⟩:YRow)∈v:=by
       have:(⟨k,kids.len,nm',s,g,e⟩:YRow)∈v.drop i:=by rw [h1];simp
       exact List.mem_of_mem_drop this
      have hfn:=hf _ hmem;have hpl:=J8m k kids.len nm' s g e hfn.s hfn.c;have hri:=J8l v i nm' k s g e kids r.enc omg (by rw [h1,Jqo]) fun n hn=>(hf n hn).name
      have hcont:(okR t ↔ okRF (kids.app r))→∃ y:Nat×RF,(v.drop y.1=y.2.enc∧y.1+y.2.enc.length=v.length∧(okR t ↔ okRF y.2))∧v.length - y.1<v.length - i∧y=(i+1,kids.app r):=fun h =>
       ⟨(i+1,kids.app r),⟨by simp only;rw [← List.drop_drop,h1,Jqr];rfl,by simp only;rw [Jqr,List.length_append];omega,h⟩,by simp only;omega,rfl⟩
      by_cases hn1:Jri k s g e kids.len
      ·rw [decide_eq_true hn1] at hpl;by_cases hk1:Jr1 k kids.list
       ·rw [← J7i hk1] at hri;by_cases h78:k=7∨k=8
        ·have hm1:kids.len=1:=by
          have:=hn1;rcases h78 with rfl | rfl <;> simp [Jri] at this <;> omega
         obtain ⟨nm0,t0,kr,rfl⟩:∃ nm t0 kr,kids=.cons nm t0 kr:=by
          cases kids with
          | nil=>simp [RF.len] at hm1
          | cons a b c=>exact ⟨a,b,c,rfl⟩
         have hd1:v.drop (i+1)=t0.enc nm0 ++ (kr.enc ++ r.enc):=by
          rw [← List.drop_drop,h1,Jqg];simp
         have hP:=Jx7 s hfn.s;have hLd:=d_lead (Je s).1 t0 v (i+1) nm0 _ omg (by have:=(Jw0 s).1;omega) hd1;have hsp:=Jzs (p:=(Je s).1) (t:=t0) (nm:=nm0);cases hlo:Jtw t0 (Je s).1 with
         | none =>
          rw [hlo] at hsp hLd;have hnl:¬ Jwp k s (RF.cons nm0 t0 kr).list:=fun h=>by
           obtain ⟨u,hu,_⟩:=h h78 (nm0,t0) rfl;simp only at hsp hu;rw [hsp] at hu;cases hu
          simp only [Jw3] at hLd;rcases h78 with rfl | rfl
          ·(refine lws ?_;simp only [go_sem,simprocAttr,Jqi,decide_true,c4,hga]);(repeat' (first | ((first | (refine Jqa (hpl) ?_)|(refine Jqa (hri) ?_)|(refine Jqa (hP) ?_)|(refine Jqa (hLd) ?_));simp only [go_sem,simprocAttr,decide_true,hga,w1,Bool.not_true]) | fail));exact hB false (by rw [h3];simp [hnl])
          ·(refine lws ?_;simp only [go_sem,simprocAttr,Jqi,decide_true,c4,hga]);(repeat' (first | ((first | (refine Jqa (hpl) ?_)|(refine Jqa (hri) ?_)|(refine Jqa (hP) ?_)|(refine Jqa (hLd) ?_));simp only [go_sem,simprocAttr,decide_true,hga,w1,Bool.not_true]) | fail));exact hB false (by rw [h3];simp [hnl])
         | some o =>
          rw [hlo] at hsp hLd;obtain ⟨u,nm2,b,hu,hdo⟩:=hsp;have ho:o≤(t0.enc nm0).length:=by
           have hpos:=Jso u nm2;have:=congrArg List.length hdo;rw [List.length_drop,List.length_append] at this;omega
          have hdu:v.drop (i+1+o)=u.enc nm2 ++ (b ++ (kr.enc ++ r.enc)):=by
           rw [← List.drop_drop,hd1,List.drop_append_of_le_length ho,hdo,List.append_assoc]
          obtain ⟨n4,s4,g4,e4,hgu⟩:=Jz9 hdu;simp only [Jw3] at hLd;have c7:(((i+1+o:Nat):Int)<0)=False:=eq_false omg;by_cases hu1:u.kind=1
          ·have c8:=eq_true hu1;have hyl:Jwp k s (RF.cons nm0 t0 kr).list:=fun _ p hp=>by cases hp;exact ⟨u,hu,hu1⟩
           obtain ⟨y,p1,p2,rfl⟩:=hcont (h3.trans ⟨fun h=>h.2.2.2,fun h=>⟨hn1,hk1,hyl,h⟩⟩);rcases h78 with rfl | rfl
           ·(refine lws ?_;simp only [go_sem,simprocAttr,Jqi,decide_true,c4,hga]);(repeat' (first | ((first | (refine Jqa (hpl) ?_)|(refine Jqa (hri) ?_)|(refine Jqa (hP) ?_)|(refine Jqa (hLd) ?_));simp only [go_sem,simprocAttr,decide_false,not_true_eq_false,hga,w1,c7,c8,hgu,Bool.not_true]) | fail));exact ⟨_,p1,p2,Jqb⟩
           ·(refine lws ?_;simp only [go_sem,simprocAttr,Jqi,decide_true,c4,hga]);(repeat' (first | ((first | (refine Jqa (hpl) ?_)|(refine Jqa (hri) ?_)|(refine Jqa (hP) ?_)|(refine Jqa (hLd) ?_));simp only [go_sem,simprocAttr,decide_false,not_true_eq_false,hga,w1,c7,c8,hgu,Bool.not_true]) | fail));exact ⟨_,p1,p2,Jqb⟩
          ·have c8:=eq_false hu1;have hnl:¬ Jwp k s (RF.cons nm0 t0 kr).list:=fun h=>by
            obtain ⟨u',hu',hk'⟩:=h h78 (nm0,t0) rfl;simp only at hu';rw [hu] at hu';cases hu';exact hu1 hk'
           rcases h78 with rfl | rfl
           ·(refine lws ?_;simp only [go_sem,simprocAttr,Jqi,decide_true,c4,hga]);(repeat' (first | ((first | (refine Jqa (hpl) ?_)|(refine Jqa (hri) ?_)|(refine Jqa (hP) ?_)|(refine Jqa (hLd) ?_));simp only [go_sem,simprocAttr,decide_false,hga,w1,c7,c8,hgu,Bool.not_true]) | fail));exact hB false (by rw [h3];simp [hnl])
           ·(refine lws ?_;simp only [go_sem,simprocAttr,Jqi,decide_true,c4,hga]);(repeat' (first | ((first | (refine Jqa (hpl) ?_)|(refine Jqa (hri) ?_)|(refine Jqa (hP) ?_)|(refine Jqa (hLd) ?_));simp only [go_sem,simprocAttr,decide_false,hga,w1,c7,c8,hgu,Bool.not_true]) | fail));exact hB false (by rw [h3];simp [hnl])
        ·have c7:(k=7)=False:=eq_false (fun h=>h78 (.inl h));have c8:(k=8)=False:=eq_false (fun h=>h78 (.inr h));have hyl:Jwp k s kids.list:=fun h=>absurd h h78
         obtain ⟨y,p1,p2,rfl⟩:=hcont (h3.trans ⟨fun h=>h.2.2.2,fun h=>⟨hn1,hk1,hyl,h⟩⟩);(refine lws ?_;simp only [go_sem,simprocAttr,Jqi,decide_true,c4,hga]);(repeat' (first | ((first | (refine Jqa (hpl) ?_)|(refine Jqa (hri) ?_));simp only [go_sem,simprocAttr,hga,w1,c7,c8,Bool.not_true]) | fail));exact ⟨_,p1,p2,Jqb⟩
       ·rw [← J7o hk1] at hri;(refine lws ?_;simp only [go_sem,simprocAttr,Jqi,decide_true,c4,hga]);(repeat' (first | ((first | (refine Jqa (hpl) ?_)|(refine Jqa (hri) ?_));simp only [go_sem,simprocAttr,Bool.not_true,Bool.not_false]) | fail));exact hB false (by rw [h3];simp [hk1])
      ·rw [decide_eq_false hn1] at hpl;(refine lws ?_;simp only [go_sem,simprocAttr,Jqi,decide_true,c4,hga]);(repeat' (first | ((refine Jqa (hpl) ?_);simp only [go_sem,simprocAttr,Bool.not_false]) | fail));exact hB false (by rw [h3];simp [hn1])
    ·have c3:(Jsw v 0 1=(v.length:Int))=False:=eq_false hnx;have hb:=Js8 (v:=v) fun h=>hnx (J3n h)
     rw [← hb];(refine bgo Tryz.func197 ?_;simp only [go_sem,simprocAttr,Jqi,hg0,c0,c2,c9,not_true_eq_false]);(repeat' (first | ((refine Jqa (hN) ?_);simp only [go_sem,simprocAttr,Jqi,c3,not_false_eq_true]) | fail))
  ·have c2:=eq_false hnm;have hb:=Js8 (v:=v) (by
    rintro ⟨t,_,_,h⟩;cases t with
    | mk k s g e kids =>
     rw [Jqo,← hvv] at h;have:=(List.cons.inj h).1;rw [this] at hnm;exact hnm rfl)
   rw [← hb];(refine bgo Tryz.func197 ?_;simp only [go_sem,simprocAttr,Jqi,hg0,c0,c2,not_false_eq_true])
   skip
end Go.LX
namespace Go.LX
open Go
def incR:List UInt8→List UInt8
 | []=>[]
 | c :: r=>if c=57 then 48 :: incR r else (c+1) :: r
def decR:List UInt8→List UInt8
 | []=>[]
 | c :: r=>if c=48 then 57 :: decR r else (c - 1) :: r
def J2k (s:List UInt8):List UInt8:=(incR (48 :: s).reverse).reverse
def J1p (s:List UInt8):List UInt8:=(decR s.reverse).reverse
def Jsf (n:Node) (e:Int):List UInt8:=n.s ++ List.replicate (n.e - e).toNat 48
def topR (n:Node) (above:Bool):Int:=if (n.neg != above)=false∧n.s=[49] then (n.s.length:Int)+n.e - 1 else n.s.length+n.e
def Jq5 (n:Node) (above:Bool):Int:=max (topR n above - 100) (-1000)
def Js0 (n:Node) (above:Bool):List UInt8:=if (n.neg != above)=true then J2k (Jsf n (Jq5 n above)) else J1p (Jsf n (Jq5 n above))
def Jr6 (n:Node) (above:Bool):Option Node :=
 if n.s=[] then some ⟨3,0,[],[49],!above,-1000⟩
 else if (make n.neg (Js0 n above) (Jq5 n above)).2=0 then some (make n.neg (Js0 n above) (Jq5 n above)).1 else none
def numC (a:Int×Node):List Node:=if a.2.kind=3 then a.2 :: ((Jr6 a.2 true).toList ++ (Jr6 a.2 false).toList) else []
def strC (a:Int×Node):List Node:=if a.2.kind=4 then [a.2,⟨4,0,[],a.2.s ++ [0],false,0⟩] else []
def Ju6 (k:Int):Node:=⟨k,0,[],[],false,0⟩
def Jq7 (l:List (Int×Node)):List Node:=[Ju6 0,Ju6 1,Ju6 2,Ju6 3] ++ l.flatMap numC
def Js9 (l:List (Int×Node)):List Node:=Jq7 l ++ [Ju6 4] ++ l.flatMap strC
theorem J4z:∀ s,(incR s).length=s.length
 | []=>rfl
 | c :: r=>by unfold incR;split <;> simp [J4z r]
theorem J3k:∀ s,(decR s).length=s.length
 | []=>rfl
 | c :: r=>by unfold decR;split <;> simp [J3k r]
theorem J8c (s:List UInt8):(J2k s).length=s.length+1:=by simp [J2k,J4z]
theorem J84 (s:List UInt8):(J1p s).length=s.length:=by simp [J1p,J3k]
theorem J9j {g:Bool} {s:List UInt8} {e:Int} (h:(make g s e).2=0):(make g s e).1.s.length≤100∧(make g s e).1.name=[]∧-1000≤(make g s e).1.e∧(make g s e).1.e≤1000:=by
 unfold make at h ⊢;split
 ·rename_i h1;rw [if_pos h1] at h;cases h
 ·rename_i h1;rw [if_neg h1] at h;split
  ·exact ⟨by simp [Jth],rfl,by simp [Jth],by simp [Jth]⟩
  ·rename_i h2;rw [if_neg h2] at h;split
   ·rename_i h3;rw [if_pos h3] at h;cases h
   ·rename_i h3;rw [if_neg h3] at h;split
    ·rename_i h4;rw [if_pos h4] at h;cases h
    ·rename_i h4;rw [if_neg h4] at h;simp only at h ⊢;split
     ·rename_i h5;rw [if_pos h5] at h;cases h
     ·rename_i h5;rw [if_neg h5] at h;split
      ·rename_i h6;rw [if_pos h6] at h;cases h
      ·rename_i h6;rw [if_neg h6] at h;split
       ·rename_i h7;rw [if_pos h7] at h;cases h
       ·rename_i h7;refine ⟨by simp only;omega,rfl,by simp only;omega,by simp only;omega⟩
structure CandFit (n:Node):Prop where
 s:n.s.length≤1000
 name:n.name=[]
 e0:-1000≤n.e
 e1:n.e≤1000
theorem Jzf {n m:Node} {a:Bool} (h:Jr6 n a=some m):CandFit m:=by
 unfold Jr6 at h;split at h
 ·cases h;exact ⟨by simp,rfl,by simp,by simp⟩
 ·split at h
  ·rename_i h2;cases h;obtain ⟨g1,g2,g3,g4⟩:=J9j h2;exact ⟨by omega,g2,g3,g4⟩
  ·cases h
theorem cand_fit {l:List (Int×Node)} (hl:∀ a∈l,CandFit a.2∧a.2.s.length≤500) {n:Node} (h:n∈Js9 l):CandFit n:=by
 have hb:∀ k,CandFit (Ju6 k):=fun k=>⟨by simp [Ju6],rfl,by simp [Ju6],by simp [Ju6]⟩
 simp only [Js9,Jq7,List.mem_append,List.mem_cons,List.not_mem_nil,or_false,List.mem_flatMap] at h;rcases h with (((rfl | rfl | rfl | rfl) | ⟨a,ha,h⟩) | rfl) | ⟨a,ha,h⟩
 ·exact hb 0
 ·exact hb 1
 ·exact hb 2
 ·exact hb 3
 ·unfold numC at h;split at h
  ·simp only [List.mem_cons,List.mem_append,Option.mem_toList] at h;rcases h with rfl | h | h
   ·exact (hl a ha).1
   ·exact Jzf h
   ·exact Jzf h
  ·cases h
 ·exact hb 4
 ·unfold strC at h;split at h
  ·simp only [List.mem_cons,List.not_mem_nil,or_false] at h;rcases h with rfl | rfl
   ·exact (hl a ha).1
   ·have:=(hl a ha).2;exact ⟨by simp;omega,rfl,by simp,by simp⟩
  ·cases h
end Go.LX
namespace Go.LX
open Go Go.Proofs Go.RowKit
structure BytesOwn (w wr:World) (l:List UInt8):Prop where
 below:Below w.heap.size w wr
 cell:∀ (k:Nat) (c:UInt8),l[k]? = some c→wr.cell? ⟨w.heap.size,k,none⟩=some (.int .u8 (c.toNat:Int))
 soft:∀ k,k<l.length→wr.frozen? ⟨w.heap.size,k,none⟩=false
theorem Juu (w:World) (e:TypeId) (s:ByteArray):BytesOwn w (Lib.bytesWorld w e s) s.data.toList where
 below:=Lib.bytesWorld_below w e s
 cell k c hk:=by
  have hlt:=(List.getElem?_eq_some_iff.1 hk).1;rw [Lib.bytesWorld_cell w e s k (by simpa using hlt)];simp only [List.getD,hk,Option.getD_some]
 soft k hk:=by
  simp only [World.frozen?,Lib.bytesWorld_at_new];have:k<(Lib.bytesCells w e s).size:=by
   simp only [Lib.bytesCells,Array.size_append,Array.size_map];have:k<s.data.size:=by simpa using hk
   omega
  simp;omega
theorem BytesOwn.set {w wr:World} {l:List UInt8} (h:BytesOwn w wr l) {k:Nat} (hk:k<l.length) (c:UInt8) (v:Int) (hv:v=(c.toNat:Int)):BytesOwn w (wr.setCell ⟨w.heap.size,k,none⟩ (.int .u8 v)) (l.set k c) where
 below:=h.below.setCell (Nat.le_refl _) _
 cell i d hi:=by
  subst hv;by_cases hik:i=k
  ·subst hik;rw [List.getElem?_set_self hk] at hi;cases hi;exact World.cell?_setCell_same _ _ _ (h.cell i l[i] (List.getElem?_eq_getElem hk))
  ·rw [List.getElem?_set_ne (Ne.symm hik)] at hi;rw [World.cell?_setCell_other _ _ _ _ (by intro e;cases e;exact hik rfl)];exact h.cell i d hi
 soft i hi:=by
  rw [World.frozen?_setCell];exact h.soft i (by simpa using hi)
theorem BytesOwn.bytes {w wr:World} {l:List UInt8} (h:BytesOwn w wr l):Lib.Bytes wr w.heap.size 0 ⟨l.toArray⟩:=by
 intro i hi;have hi':i<l.length:=hi;rw [Nat.zero_add];exact h.cell i l[i] (List.getElem?_eq_getElem hi')
def Jqn (x y:UInt8) (pre:List UInt8) (c:UInt8) (j r:Nat):List UInt8:=pre ++ c :: (List.replicate (r - j) x ++ List.replicate j y)
theorem Jyj {x y:UInt8} {pre:List UInt8} {c:UInt8} {j r k:Nat} (hk:k+j=pre.length+r) (hj:j<r):(Jqn x y pre c j r)[k]? = some x:=by
 unfold Jqn;obtain ⟨m,rfl⟩:∃ m,k=pre.length+(m+1):=⟨k - pre.length - 1,by omega⟩
 rw [List.getElem?_append_right (by omega),Nat.add_sub_cancel_left,List.getElem?_cons_succ,List.getElem?_append_left (by rw [List.length_replicate];omega),List.getElem?_replicate,if_pos (by omega)]
theorem Jzr {x y:UInt8} {pre:List UInt8} {c:UInt8} {j r k:Nat} (hk:k+j=pre.length+r) (hj:j<r):(Jqn x y pre c j r).set k y=Jqn x y pre c (j+1) r:=by
 unfold Jqn;obtain ⟨m,rfl⟩:∃ m,k=pre.length+(m+1):=⟨k - pre.length - 1,by omega⟩
 rw [List.set_append_right _ _ (by omega),Nat.add_sub_cancel_left,List.set_cons_succ];congr 2;obtain rfl:m=r - (j+1):=by omega
 rw [show r - j=(r - (j+1))+1 by omega,List.replicate_succ',List.append_assoc,List.set_append_right _ _ (by simp),List.length_replicate,Nat.sub_self,List.replicate_succ];rfl
theorem Jyf {x y:UInt8} {pre:List UInt8} {c:UInt8} {r:Nat}:(Jqn x y pre c r r)[pre.length]? = some c:=by
 unfold Jqn;simp
theorem J0h {x y:UInt8} {pre:List UInt8} {c d:UInt8} {r:Nat}:(Jqn x y pre c r r).set pre.length d=Jqn x y pre d r r:=by
 unfold Jqn;simp
set_option maxHeartbeats 1000000 in
set_option maxRecDepth 100000 in
theorem less_any (s:ByteArray) (w:World) (pre:List UInt8) (c:UInt8) (r:Nat) (hs:s.data.toList=Jqn 48 57 pre c 0 r) (hc:c≠48) (h0:1≤c.toNat) (hl:s.size≤100000) :
  Calls Tryz.prog 319 #[.string s] w fun e w'=>e=.returned (.string ⟨(Jqn 48 57 pre (c - 1) r r).toArray⟩)∧Below w.heap.size w w':=by
 have hlen:s.size=pre.length+1+r:=by
  have:=congrArg List.length hs;simp [Jqn] at this;have h2:s.size=s.data.size:=rfl;omega
 have hO:BytesOwn w (Lib.bytesWorld w 5 s) (Jqn 48 57 pre c 0 r):=hs ▸ Juu w 5 s;have hcv:=Lib.run_convert_string_bytes (P:=Tryz.prog) w 9 165 5 s (u:=.string) Tryz.underlying9 Tryz.underlying165 Tryz.underlying5;obtain ⟨W1,hW1⟩:∃ W1,W1=Lib.bytesWorld w 5 s:=⟨_,rfl⟩
 obtain ⟨C1,hC1⟩:∃ C1,C1=grownCap w s.size 0 5:=⟨_,rfl⟩
 rw [← hW1,← hC1] at hcv;rw [← hW1] at hO;have HO:Hid (BytesOwn w W1 (Jqn 48 57 pre c 0 r)):=hO;have HL:Hid (s.size=pre.length+1+r):=hlen;have HS:Hid (s.data.toList=Jqn 48 57 pre c 0 r):=hs;clear hO hlen hs hW1 hC1
 go_enter Tryz.func319,Tryz.ntmps319
 go_wp2
 go_loopw [4] (fun vi wr=>∃ (k j:Nat),vi=.int .i64 (k:Int)∧Hid (k+j=pre.length+r∧j≤r)∧Hid (BytesOwn w wr (Jqn 48 57 pre c j r))) (fun vi _=>(RowKit.intOf vi).toNat)
 case atStart=>exact ⟨pre.length+r,0,congrArg (Value.int .i64) (by have:=HL.out;omega),⟨by omega,by omega⟩,HO⟩
 case round =>
  obtain ⟨k,j,rfl,hkj,hO⟩:=hrel;have hk:k<s.size:=by have:=hkj.out;have:=HL.out;omega
  have hlen:(Jqn 48 57 pre c j r).length=pre.length+1+r:=by have:=hkj.out;simp [Jqn];omega
  by_cases hjr:j<r
  ·have hget:(Jqn 48 57 pre c j r)[k]? = some 48:=Jyj (by have:=hkj.out;omega) hjr;have hset:(Jqn 48 57 pre c j r).set k 57=Jqn 48 57 pre c (j+1) r:=Jzr (by have:=hkj.out;omega) hjr;have hcl:=hO.out.cell k 48 hget;have hcl:wr.cell? ⟨w.heap.size,k,none⟩=some (.int .u8 48):=hcl;have hfz:=hO.out.soft k (by have:=hkj.out;omega);have HN:Hid (BytesOwn w (wr.setCell ⟨w.heap.size,k,none⟩ (.int .u8 57)) (Jqn 48 57 pre c (j+1) r)):=hset ▸ hO.out.set (by have:=hkj.out;omega) 57 57 rfl;have hk1:1≤k:=by have:=hkj.out;omega
   clear hget hset hlen
   go_wp2
   go_roundw
   case rel=>exact ⟨k - 1,j+1,congrArg (Value.int .i64) (by omega),⟨by have:=hkj.out;omega,by omega⟩,HN⟩
   case measure=>simp [RowKit.intOf];omega
  ·have hj:j=r:=by have:=hkj.out;omega
   subst hj;have hkp:k=pre.length:=by have:=hkj.out;omega
   subst hkp;have hcl:wr.cell? ⟨w.heap.size,pre.length,none⟩=some (.int .u8 (c.toNat:Int)):=hO.out.cell _ c Jyf;have hfz:=hO.out.soft pre.length (by omega);have hc1:¬ (c.toNat:Int)=48:=fun h=>hc (UInt8.toNat_inj.1 (by
                                       have:c.toNat=48:=by omega
                                       rw [this];rfl))
   have hsub:((c.toNat:Int) - 1)=((c - 1).toNat:Int):=by
    have:=UInt8.toNat_sub_of_le c 1 (UInt8.le_iff_toNat_le.2 h0);rw [this];show _=((c.toNat - 1:Nat):Int);omega
   have hlt:(c.toNat:Int)≤255:=by have:=c.toNat_lt;omega
   have hge:(1:Int)≤(c.toNat:Int):=by omega
   have HN:BytesOwn w (wr.setCell ⟨w.heap.size,pre.length,none⟩ (.int .u8 ((c.toNat:Int) - 1))) (Jqn 48 57 pre (c - 1) j j):=J0h (d:=c - 1) ▸ hO.out.set (by omega) (c - 1) _ hsub;have hend:=Lib.run_convert_whole (P:=Tryz.prog) (wr.setCell ⟨w.heap.size,pre.length,none⟩ (.int .u8 ((c.toNat:Int) - 1))) 165 5 9 Tryz.underlying165 Tryz.underlying5 Tryz.underlying9 w.heap.size 0 _ HN.bytes C1;have hsz:(⟨(Jqn 48 57 pre (c - 1) j j).toArray⟩:ByteArray).size=s.size:=by
    show (Jqn 48 57 pre (c - 1) j j).length=_;have:=HL.out;simp [Jqn];omega
   rw [hsz] at hend;have HB:Hid (Below w.heap.size w (wr.setCell ⟨w.heap.size,pre.length,none⟩ (.int .u8 ((c.toNat:Int) - 1)))):=HN.below;clear HN hsub hsz hlen hc h0;obtain ⟨n,hn⟩:∃ n:Int,n=(c.toNat:Int):=⟨_,rfl⟩
   rw [← hn] at hcl hc1 hend hlt hge HB;clear hn;generalize pre.length=p at *
   go_wp2
   go_ret
   exact ⟨rfl,HB⟩
set_option maxHeartbeats 1000000 in
set_option maxRecDepth 100000 in
theorem more_any (s:ByteArray) (w:World) (pre:List UInt8) (c:UInt8) (r:Nat) (hs:48 :: s.data.toList=Jqn 57 48 pre c 0 r) (hc:c≠57) (h0:c.toNat≤254) (hl:s.size≤100000) :
  Calls Tryz.prog 318 #[.string s] w fun e w'=>e=.returned (.string ⟨(Jqn 57 48 pre (c+1) r r).toArray⟩)∧Below w.heap.size w w':=by
 have hlen:1+s.size=pre.length+1+r:=by
  have:=congrArg List.length hs;simp [Jqn] at this;have h2:s.size=s.data.size:=rfl;omega
 have hsT:(({ data:=#[48] }:ByteArray) ++ s).data.toList=Jqn 57 48 pre c 0 r:=by
  rw [← hs];simp [ByteArray.data_append]
 have hsize:(({ data:=#[48] }:ByteArray) ++ s).size=1+s.size:=by rw [ByteArray.size_append];rfl
 have hO:BytesOwn w (Lib.bytesWorld w 5 ({ data:=#[48] } ++ s)) (Jqn 57 48 pre c 0 r):=by have h:=Juu w 5 ({ data:=#[48] } ++ s);rw [hsT] at h;exact h
 have hcv:=Lib.run_convert_string_bytes (P:=Tryz.prog) w 9 165 5 ({ data:=#[48] } ++ s) (u:=.string) Tryz.underlying9 Tryz.underlying165 Tryz.underlying5;rw [hsize] at hcv;obtain ⟨W1,hW1⟩:∃ W1,W1=Lib.bytesWorld w 5 ({ data:=#[48] } ++ s):=⟨_,rfl⟩
 obtain ⟨C1,hC1⟩:∃ C1,C1=grownCap w (1+s.size) 0 5:=⟨_,rfl⟩
 rw [← hW1,← hC1] at hcv;rw [← hW1] at hO;have HO:Hid (BytesOwn w W1 (Jqn 57 48 pre c 0 r)):=hO;have HL:Hid (1+s.size=pre.length+1+r):=hlen;clear hO hlen hs hsT hsize hW1 hC1
 go_enter Tryz.func318,Tryz.ntmps318
 go_wp2
 go_loopw [4] (fun vi wr=>∃ (k j:Nat),vi=.int .i64 (k:Int)∧Hid (k+j=pre.length+r∧j≤r)∧Hid (BytesOwn w wr (Jqn 57 48 pre c j r))) (fun vi _=>(RowKit.intOf vi).toNat)
 case atStart=>exact ⟨pre.length+r,0,congrArg (Value.int .i64) (by have:=HL.out;omega),⟨by omega,by omega⟩,HO⟩
 case round =>
  obtain ⟨k,j,rfl,hkj,hO⟩:=hrel;have hk:k<1+s.size:=by have:=hkj.out;have:=HL.out;omega
  have hlen:(Jqn 57 48 pre c j r).length=pre.length+1+r:=by have:=hkj.out;simp [Jqn];omega
  by_cases hjr:j<r
  ·have hget:(Jqn 57 48 pre c j r)[k]? = some 57:=Jyj (by have:=hkj.out;omega) hjr;have hset:(Jqn 57 48 pre c j r).set k 48=Jqn 57 48 pre c (j+1) r:=Jzr (by have:=hkj.out;omega) hjr;have hcl:=hO.out.cell k 57 hget;have hcl:wr.cell? ⟨w.heap.size,k,none⟩=some (.int .u8 57):=hcl;have hfz:=hO.out.soft k (by have:=hkj.out;omega);have HN:Hid (BytesOwn w (wr.setCell ⟨w.heap.size,k,none⟩ (.int .u8 48)) (Jqn 57 48 pre c (j+1) r)):=hset ▸ hO.out.set (by have:=hkj.out;omega) 48 48 rfl;have hk1:1≤k:=by have:=hkj.out;omega
   clear hget hset hlen
   go_wp2
   go_roundw
   case rel=>exact ⟨k - 1,j+1,congrArg (Value.int .i64) (by omega),⟨by have:=hkj.out;omega,by omega⟩,HN⟩
   case measure=>simp [RowKit.intOf];omega
  ·have hj:j=r:=by have:=hkj.out;omega
   subst hj;have hkp:k=pre.length:=by have:=hkj.out;omega
   subst hkp;have hcl:wr.cell? ⟨w.heap.size,pre.length,none⟩=some (.int .u8 (c.toNat:Int)):=hO.out.cell _ c Jyf;have hfz:=hO.out.soft pre.length (by omega);have hc1:¬ (c.toNat:Int)=57:=fun h=>hc (UInt8.toNat_inj.1 (by
                                       have:c.toNat=57:=by omega
                                       rw [this];rfl))
   have hsub:((c.toNat:Int)+1)=((c+1).toNat:Int):=by
    rw [UInt8.toNat_add];show _=(((c.toNat+1) % 256:Nat):Int);omega
   have hlt:(c.toNat:Int)≤254:=by omega
   have hge:(0:Int)≤(c.toNat:Int):=by omega
   have HN:BytesOwn w (wr.setCell ⟨w.heap.size,pre.length,none⟩ (.int .u8 ((c.toNat:Int)+1))) (Jqn 57 48 pre (c+1) j j):=J0h (d:=c+1) ▸ hO.out.set (by omega) (c+1) _ hsub;have hend:=Lib.run_convert_whole (P:=Tryz.prog) (wr.setCell ⟨w.heap.size,pre.length,none⟩ (.int .u8 ((c.toNat:Int)+1))) 165 5 9 Tryz.underlying165 Tryz.underlying5 Tryz.underlying9 w.heap.size 0 _ HN.bytes C1;have hsz:(⟨(Jqn 57 48 pre (c+1) j j).toArray⟩:ByteArray).size=1+s.size:=by
    show (Jqn 57 48 pre (c+1) j j).length=_;have:=HL.out;simp [Jqn];omega
   rw [hsz] at hend;have HB:Hid (Below w.heap.size w (wr.setCell ⟨w.heap.size,pre.length,none⟩ (.int .u8 ((c.toNat:Int)+1)))):=HN.below;clear HN hsub hsz hlen hc h0;obtain ⟨n,hn⟩:∃ n:Int,n=(c.toNat:Int):=⟨_,rfl⟩
   rw [← hn] at hcl hc1 hend hlt hge HB;clear hn;generalize pre.length=p at *
   go_wp2
   go_ret
   exact ⟨rfl,HB⟩
end Go.LX
namespace Go.LX
open Go
theorem Jwo (x y:UInt8) (f:UInt8→UInt8) (g:List UInt8→List UInt8) (h0:g []=[]) (h1:∀ c r,g (c :: r)=if c=x then y :: g r else f c :: r) :
  ∀ l:List UInt8,(∃ c∈l,c≠x)→∃ pre c r,l.reverse=Jqn x y pre c 0 r∧c≠x∧c∈l∧(g l).reverse=Jqn x y pre (f c) r r
 | [],⟨_,h,_⟩=>by simp at h
 | a :: t,⟨d,hd,hx⟩=>by
  by_cases ha:a=x
  ·subst ha;have hd':d∈t:=by
    rcases List.mem_cons.1 hd with h | h
    ·exact absurd h hx
    ·exact h
   obtain ⟨pre,c,r,e1,e2,e3,e4⟩:=Jwo a y f g h0 h1 t ⟨d,hd',hx⟩;refine ⟨pre,c,r+1,?_,e2,List.mem_cons_of_mem _ e3,?_⟩
   ·rw [List.reverse_cons,e1];simp [Jqn,List.replicate_succ']
   ·rw [h1,if_pos rfl,List.reverse_cons,e4];simp [Jqn,List.replicate_succ']
  ·refine ⟨t.reverse,a,0,by simp [Jqn],ha,by simp,?_⟩;rw [h1,if_neg ha];simp [Jqn]
theorem J6g (s:List UInt8) (h:∃ c∈s,c≠48):∃ pre c r,s=Jqn 48 57 pre c 0 r∧c≠48∧c∈s∧J1p s=Jqn 48 57 pre (c - 1) r r:=by
 obtain ⟨d,hd,hx⟩:=h;obtain ⟨pre,c,r,h1,h2,h3,h4⟩:=Jwo 48 57 (fun c=>c - 1) decR rfl (fun _ _=>rfl) s.reverse ⟨d,by simpa using hd,hx⟩;exact ⟨pre,c,r,by simpa using h1,h2,by simpa using h3,h4⟩
theorem J6e (s:List UInt8):∃ pre c r,48 :: s=Jqn 57 48 pre c 0 r∧c≠57∧c∈48 :: s∧J2k s=Jqn 57 48 pre (c+1) r r:=by
 obtain ⟨pre,c,r,h1,h2,h3,h4⟩:=Jwo 57 48 (fun c=>c+1) incR rfl (fun _ _=>rfl) (48 :: s).reverse ⟨48,by simp,by decide⟩;exact ⟨pre,c,r,by simpa using h1,h2,List.mem_reverse.1 h3,h4⟩
end Go.LX
namespace Go.LX
open Go Go.RowKit Go.Proofs
attribute [local irreducible] Al SWP Bi
theorem d_more (s:List UInt8) (hs:s.length≤10000) (hd:∀ c∈s,c≤57):Det cx 318 [.p (.str s)] [] (.p (.str (J2k s))) []:=by
 obtain ⟨pre,c,r,h1,h2,h3,h4⟩:=J6e s;rw [h4];refine Jsz (enters_of Tryz.func318 krf rfl) fun β Im w vs hg hf=>?_
 obtain ⟨v,rfl,hv⟩:=fit1 hf;cases Ks hv;have hc:c.toNat≤254:=by
  rcases List.mem_cons.1 h3 with h | h
  ·subst h;decide
  ·have:=UInt8.le_iff_toNat_le.1 (hd c h);have e:(57:UInt8).toNat=57:=rfl;omega
 refine (more_any ⟨⟨s⟩⟩ w pre c r h1 h2 hc (by show s.length≤_;omega)).mono fun e w' ⟨h,hb⟩=>⟨⟨_,h,fun β w Im=>PRep.str _⟩,hb⟩
theorem d_less (s:List UInt8) (hs:s.length≤10000) (h0:∃ c∈s,c≠48) (hd:∀ c∈s,48≤c):Det cx 319 [.p (.str s)] [] (.p (.str (J1p s))) []:=by
 obtain ⟨pre,c,r,h1,h2,h3,h4⟩:=J6g s h0;rw [h4];refine Jsz (enters_of Tryz.func319 krf rfl) fun β Im w vs hg hf=>?_
 obtain ⟨v,rfl,hv⟩:=fit1 hf;cases Ks hv;have hc:1≤c.toNat:=by
  have:=UInt8.le_iff_toNat_le.1 (hd c h3);have e:(48:UInt8).toNat=48:=rfl;omega
 refine (less_any ⟨⟨s⟩⟩ w pre c r h1 h2 hc (by show s.length≤_;omega)).mono fun e w' ⟨h,hb⟩=>⟨⟨_,h,fun β w Im=>PRep.str _⟩,hb⟩
theorem d_padded (n:Node) (e:Int) (hn:n.s.length≤1000) (h1:-1000≤n.e) (h2:n.e≤1000) (h3:-3000≤e) (h4:e≤3000):Det cx 317 [.p (.agg [.int .i64 n.kind,.int .i64 n.many,.str n.name,.str n.s,.bool n.neg,.int .i64 n.e]),.p (.int .i64 e)] [] (.p (.str (Jsf n e))) []:=by
 (refine bgo Tryz.func317 ?_;simp only [go_sem,simprocAttr]);refine SWP.loop (fun j:Nat=>⟨Ba 19 [(1,.p (.int .i64 e)),(2,.ptr 2 0 0),(5,.p (.str (n.s ++ List.replicate j 48))),(6,.p (.int .i64 (e+j)))],[(2,.var 29 [.p (.int .i64 n.kind),.p (.int .i64 n.many),.p (.str n.name),.p (.str n.s),.p (.bool n.neg),.p (.int .i64 n.e)])]⟩) (fun j=>j≤(n.e - e).toNat) (fun j=>(n.e - e).toNat - j) 0 (by rw [List.replicate_zero,List.append_nil,show e+((0:Nat):Int)=e by omega];exact Jqb) (Nat.zero_le _) ?_;rintro j hj;by_cases hlt:j<(n.e - e).toNat
 ·have c1:(e+(j:Int)<n.e)=True:=eq_true omg;have w1:IntKind.i64.wrap (e+(j:Int)+1)=e+((j+1:Nat):Int):=by rw [Aa omg omg];omega
  have hcat:n.s ++ List.replicate j 48 ++ [48]=n.s ++ List.replicate (j+1) 48:=by rw [List.replicate_succ',List.append_assoc]
  (refine lws ?_;simp only [go_sem,simprocAttr,c1,w1,hcat]);exact ⟨by simp;omega,j+1,by omega,by omega,Jqb⟩
 ·have c1:(e+(j:Int)<n.e)=False:=eq_false omg;have hjj:(n.e - e).toNat=j:=by omega
  unfold Jsf;rw [hjj];(refine lws ?_;simp only [go_sem,simprocAttr,c1])
  skip
def besL (o:Option Node):L:=match o with
 | some m=>.tup [.agg [.int .i64 m.kind,.int .i64 m.many,.str m.name,.str m.s,.bool m.neg,.int .i64 m.e],.bool true]
 | none=>.tup [.agg [.int .i64 0,.int .i64 0,.str [],.str [],.bool false,.int .i64 0],.bool false]
theorem J3o (n:Node) (e:Int):(Jsf n e).length=n.s.length+(n.e - e).toNat:=by simp [Jsf]
theorem J33 (n:Node) (a:Bool) (hk:n.kind=3) (hp:Jrb n):Det cx 287 [.p (.agg [.int .i64 n.kind,.int .i64 n.many,.str n.name,.str n.s,.bool n.neg,.int .i64 n.e]),.p (.bool a)] [] (besL (Jr6 n a)) []:=by
 have hnr:Yz n.s n.neg n.e:=Jtc hp.2.2 hk;obtain ⟨f0,f1,f2,f3,f4,f5⟩:=hnr;by_cases hs0:n.s=[]
 ·have c1:=eq_true hs0;rw [show Jr6 n a=some ⟨3,0,[],[49],!a,-1000⟩ from if_pos hs0];simp only [besL];(refine bgo Tryz.func287 ?_;simp only [go_sem,simprocAttr,c1])
  skip
 ·have c1:=eq_false hs0;rw [show Jr6 n a=(if (make n.neg (Js0 n a) (Jq5 n a)).2=0 then some (make n.neg (Js0 n a) (Jq5 n a)).1 else none) from if_neg hs0];have htop:-1001≤topR n a∧topR n a≤1100:=by unfold topR;split <;> omega
  have hle:-1000≤Jq5 n a∧Jq5 n a≤1000:=by unfold Jq5;omega
  have hP:=d_padded n (Jq5 n a) omg f2 f3 omg omg;have hplen:=J3o n (Jq5 n a);have hfig:∀ c∈Jsf n (Jq5 n a),48≤c∧c≤57:=by
   intro c hc;unfold Jsf at hc;rcases List.mem_append.1 hc with h | h
   ·have:=List.all_eq_true.1 f0 c h;simp only [Ja8,Bool.and_eq_true,decide_eq_true_eq] at this;exact ⟨UInt8.le_iff_toNat_le.2 this.1,UInt8.le_iff_toNat_le.2 this.2⟩
   ·rw [List.eq_of_mem_replicate h];exact ⟨by decide,by decide⟩
  have hM:=d_more (Jsf n (Jq5 n a)) omg (fun c h=>(hfig c h).2);have hL:=d_less (Jsf n (Jq5 n a)) omg (by
   rw [if_neg hs0] at f5;have hpos:0<n.s.length:=by
    cases h:n.s with
    | nil=>exact absurd h hs0
    | cons=>simp
   refine ⟨n.s[0],by unfold Jsf;exact List.mem_append_left _ (List.getElem_mem hpos),fun h=>f5.1 ?_⟩;rw [Ql hpos,h];rfl) (fun c h=>(hfig c h).1)
  have hslen:(Js0 n a).length≤1000000:=by
   unfold Js0;split
   ·rw [J8c];omega
   ·rw [J84];omega
  have hK:=J7p n.neg (Js0 n a) (Jq5 n a) hslen;rw [Js3] at hK;have w1:IntKind.i64.wrap ((n.s.length:Int)+n.e)=(n.s.length:Int)+n.e:=Aa omg omg;have w2:IntKind.i64.wrap ((n.s.length:Int)+n.e - 1)=(n.s.length:Int)+n.e - 1:=Aa omg omg;have w3:IntKind.i64.wrap ((n.s.length:Int)+n.e - 100)=(n.s.length:Int)+n.e - 100:=Aa omg omg;have w4:IntKind.i64.wrap ((n.s.length:Int)+n.e - 1 - 100)=(n.s.length:Int)+n.e - 1 - 100:=Aa omg omg;by_cases hg:n.neg=a
  ·have c2:=eq_true hg;have hst:Js0 n a=J1p (Jsf n (Jq5 n a)):=if_neg (by rw [hg];simp);rw [hst] at hK hslen ⊢;by_cases h49:n.s=[49]
   ·have c3:=eq_true h49;have hE:max ((n.s.length:Int)+n.e - 1 - 100) (-1000)=Jq5 n a:=by unfold Jq5 topR;rw [if_pos ⟨by rw [hg];simp,h49⟩]
    generalize Jq5 n a=E at *
    (refine bgo Tryz.func287 ?_;simp only [go_sem,simprocAttr,c1,c2,c3,w1,w2,w4,hE]);(repeat' (first | (apply iteI <;> intro h)|((first | (refine Jqa (hP) ?_)|(refine Jqa (hL) ?_)|(refine Jqa (hK) ?_));simp only [go_sem,simprocAttr,c2]) | fail))
    all_goals (first | (rw [if_pos (Classical.not_not.1 h)];rfl)|(rw [if_neg h];rfl))
   ·have c3:=eq_false h49;have hE:max ((n.s.length:Int)+n.e - 100) (-1000)=Jq5 n a:=by unfold Jq5 topR;rw [if_neg (fun h=>h49 h.2)]
    generalize Jq5 n a=E at *
    (refine bgo Tryz.func287 ?_;simp only [go_sem,simprocAttr,c1,c2,c3,w1,w3,hE]);(repeat' (first | (apply iteI <;> intro h)|((first | (refine Jqa (hP) ?_)|(refine Jqa (hL) ?_)|(refine Jqa (hK) ?_));simp only [go_sem,simprocAttr,c2]) | fail))
    all_goals (first | (rw [if_pos (Classical.not_not.1 h)];rfl)|(rw [if_neg h];rfl))
  ·have c2:=eq_false hg;have hst:Js0 n a=J2k (Jsf n (Jq5 n a)):=if_pos (by simpa using hg);rw [hst] at hK hslen ⊢;have hE:max ((n.s.length:Int)+n.e - 100) (-1000)=Jq5 n a:=by unfold Jq5 topR;rw [if_neg (fun h=>hg (by simpa using h.1))]
   generalize Jq5 n a=E at *
   (refine bgo Tryz.func287 ?_;simp only [go_sem,simprocAttr,c1,c2,w1,w3,hE]);(repeat' (first | (apply iteI <;> intro h)|((first | (refine Jqa (hP) ?_)|(refine Jqa (hM) ?_)|(refine Jqa (hK) ?_));simp only [go_sem,simprocAttr,c2]) | fail))
   all_goals (first | (rw [if_pos (Classical.not_not.1 h)];rfl)|(rw [if_neg h];rfl))
end Go.LX
