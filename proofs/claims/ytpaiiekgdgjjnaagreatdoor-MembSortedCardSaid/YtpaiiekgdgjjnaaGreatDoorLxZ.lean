/- Sorted places: plain facts. -/
import Derived.Test.YtpaiiekgdgjjnaaGreatDoorLxY
import Derived.Test.YtpaiiekgdgjjnaaGreatDoorLxW
set_option linter.unusedSimpArgs false
set_option linter.unusedVariables false
set_option linter.unusedSectionVars false
set_option linter.unnecessarySimpa false
set_option maxRecDepth 100000
set_option maxHeartbeats 2000000
namespace Go.LX
open Go Go.RowKit Go.Proofs
attribute [local irreducible] Al SWP Bi
def nilT:Tree:=.mk 0 [] false 0 .nil
def Jqz (ks:List Tree) (i:Nat):Tree:=ks.getD i nilT
theorem Jre {ks:List Tree} {i:Nat} {t:Tree} (h:ks[i]? = some t):Jqz ks i=t:=by simp [Jqz,List.getD_eq_getElem?_getD,h]
def ltB (ks:List Tree) (i j:Nat):Bool:=decide (cmpT (Jqz ks i) (Jqz ks j)<0∨cmpT (Jqz ks i) (Jqz ks j)=0∧i<j)
def okK (ks:List Tree):Prop:=∀ t∈ks,okT t
theorem Jsu {ks:List Tree} (h:okK ks) (i:Nat):okT (Jqz ks i):=by
 unfold Jqz;rw [List.getD_eq_getElem?_getD];cases e:ks[i]? with
 | none =>
  show okT nilT;unfold nilT;rw [Lu];exact ⟨by decide,Sb 0,I6⟩
 | some t=>exact h t (List.mem_of_getElem? e)
theorem Jz5 {ks:List Tree} (h:okK ks) (i:Nat):ltB ks i i=false:=by
 have:=Jvl (Jsu h i);simp [ltB,this]
theorem J1n {ks:List Tree} (h:okK ks) {i j k:Nat} (a:ltB ks i j=true) (b:ltB ks j k=true):ltB ks i k=true:=by
 unfold ltB at *
 rw [decide_eq_true_eq] at *
 have oi:=Jsu h i;have oj:=Jsu h j;have ok:=Jsu h k;rcases a with a | ⟨a,a'⟩
 ·rcases b with b | ⟨b,b'⟩
  ·exact .inl (Jum oi oj ok a b)
  ·rw [← Juh oj ok b];exact .inl a
 ·rw [Juh oi oj a];rcases b with b | ⟨b,b'⟩
  ·exact .inl b
  ·exact .inr ⟨b,by omega⟩
theorem J8j {ks:List Tree} (h:okK ks) {i j:Nat} (hij:i≠j) (a:ltB ks i j=false):ltB ks j i=true:=by
 unfold ltB at *
 rw [decide_eq_false_iff_not] at a;rw [decide_eq_true_eq,Jvh (Jsu h i) (Jsu h j)];omega
theorem J15 {ks:List Tree} (h:okK ks) {i j:Nat} (a:ltB ks i j=true):ltB ks j i=false:=by
 cases b:ltB ks j i with
 | false=>rfl
 | true=>have:=J1n h a b;rw [Jz5 h] at this;cases this
def insI (ks:List Tree) (i:Nat):List Nat→List Nat
 | []=>[i]
 | j :: l=>if ltB ks j i=true then j :: insI ks i l else i :: j :: l
def Jt5 (ks:List Tree):Nat→List Nat
 | 0=>[]
 | n+1=>insI ks n (Jt5 ks n)
def Jqv (ks:List Tree):List Nat:=Jt5 ks ks.length
theorem J0l {ks:List Tree} {i j:Nat}:∀ {l:List Nat},j∈insI ks i l ↔ j=i∨j∈l
 | []=>by simp [insI]
 | k :: l=>by
  rw [insI];split
  ·rw [List.mem_cons,J0l,List.mem_cons];constructor
   ·rintro (h | h | h)
    ·exact .inr (.inl h)
    ·exact .inl h
    ·exact .inr (.inr h)
   ·rintro (h | h | h)
    ·exact .inr (.inl h)
    ·exact .inl h
    ·exact .inr (.inr h)
  ·exact List.mem_cons
theorem J5e {ks:List Tree} (h:okK ks) {i:Nat}:∀ {l:List Nat},l.Pairwise (fun a b=>ltB ks a b=true)→i ∉ l→(insI ks i l).Pairwise fun a b=>ltB ks a b=true
 | [],_,_=>by simp [insI]
 | j :: l,hp,hi=>by
  obtain ⟨h1,h2⟩:=List.pairwise_cons.1 hp;have hij:i≠j:=fun e=>hi (by rw [e];exact List.mem_cons_self)
  rw [insI];split
  ·rename_i c;refine List.pairwise_cons.2 ⟨fun b hb=>?_,J5e h h2 (fun x=>hi (List.mem_cons_of_mem _ x))⟩;rcases J0l.1 hb with rfl | hb
   ·exact c
   ·exact h1 b hb
  ·rename_i c;have c':=J8j h (Ne.symm hij) (by simpa using c);refine List.pairwise_cons.2 ⟨fun b hb=>?_,hp⟩;rcases List.mem_cons.1 hb with rfl | hb
   ·exact c'
   ·exact J1n h c' (h1 b hb)
theorem Jx2 {ks:List Tree} {i:Nat}:∀ {n:Nat},i∈Jt5 ks n ↔ i<n
 | 0=>by simp [Jt5]
 | n+1=>by rw [Jt5,J0l,Jx2];omega
theorem J2c {ks:List Tree} (h:okK ks):∀ n:Nat,(Jt5 ks n).Pairwise fun a b=>ltB ks a b=true
 | 0=>by simp [Jt5]
 | n+1=>by
  rw [Jt5];exact J5e h (J2c h n) (fun x=>by have:=Jx2.1 x;omega)
theorem J3w {ks:List Tree} {i:Nat}:∀ {l:List Nat},(insI ks i l).length=l.length+1
 | []=>rfl
 | j :: l=>by
  rw [insI];split
  ·rw [List.length_cons,J3w,List.length_cons]
  ·rfl
theorem J1o {ks:List Tree}:∀ {n:Nat},(Jt5 ks n).length=n
 | 0=>rfl
 | n+1=>by rw [Jt5,J3w,J1o]
theorem Jsq (ks:List Tree):(Jqv ks).length=ks.length:=J1o
theorem Jrs {ks:List Tree} {i:Nat}:i∈Jqv ks ↔ i<ks.length:=Jx2
theorem Jvt {ks:List Tree} (h:okK ks):(Jqv ks).Pairwise fun a b=>ltB ks a b=true:=J2c h _
theorem Jyq {r:Nat→Nat→Prop} (asy:∀ i j,r i j→r j i→False):∀ {a b:List Nat},a.Pairwise r→b.Pairwise r→(∀ i,i∈a ↔ i∈b)→a=b
 | [],[],_,_,_=>rfl
 | [],y :: b,_,_,h=>by have:=(h y).2 List.mem_cons_self;cases this
 | x :: a,[],_,_,h=>by have:=(h x).1 List.mem_cons_self;cases this
 | x :: a,y :: b,ha,hb,h=>by
  obtain ⟨a1,a2⟩:=List.pairwise_cons.1 ha;obtain ⟨b1,b2⟩:=List.pairwise_cons.1 hb;have e:x=y:=by
   rcases List.mem_cons.1 ((h x).1 List.mem_cons_self) with e | hx
   ·exact e
   ·rcases List.mem_cons.1 ((h y).2 List.mem_cons_self) with e | hy
    ·exact e.symm
    ·exact (asy x y (a1 y hy) (b1 x hx)).elim
  subst e;rw [Jyq asy a2 b2 fun i=>?_];constructor
  ·intro hi;rcases List.mem_cons.1 ((h i).1 (List.mem_cons_of_mem _ hi)) with e | hi'
   ·subst e;exact (asy i i (a1 i hi) (a1 i hi)).elim
   ·exact hi'
  ·intro hi;rcases List.mem_cons.1 ((h i).2 (List.mem_cons_of_mem _ hi)) with e | hi'
   ·subst e;exact (asy i i (b1 i hi) (b1 i hi)).elim
   ·exact hi'
theorem J21 {ks:List Tree} (h:okK ks) {l:List Nat} (hm':∀ i,i∈l ↔ i<ks.length) (ho:l.Pairwise fun a b=>ltB ks a b=true):l=Jqv ks :=
 Jyq (fun i j a b=>by rw [J15 h a] at b;cases b) ho (Jvt h) fun i=>by rw [hm',Jrs]
def Jr0 (ks:List Tree) (i k:Nat):Nat:=(List.range k).countP fun j=>ltB ks j i
theorem J6b (ks:List Tree) (i k:Nat):Jr0 ks i (k+1)=Jr0 ks i k+if ltB ks k i=true then 1 else 0:=by
 unfold Jr0;rw [List.range_succ,List.countP_append,List.countP_singleton]
theorem rankK_le (ks:List Tree) (i k:Nat):Jr0 ks i k≤k:=by
 unfold Jr0;have:=List.countP_le_length (p:=fun j=>ltB ks j i) (l:=List.range k);rw [List.length_range] at this;exact this
theorem Jzd (ks:List Tree) (p:Nat→Bool) (i:Nat):∀ l:List Nat,(insI ks i l).countP p=l.countP p+if p i=true then 1 else 0
 | []=>by simp [insI,List.countP_cons]
 | j :: l=>by
  rw [insI];split
  ·rw [List.countP_cons,Jzd ks p i l,List.countP_cons];omega
  ·rw [List.countP_cons]
theorem Jyp (ks:List Tree) (p:Nat→Bool):∀ n:Nat,(Jt5 ks n).countP p=(List.range n).countP p
 | 0=>rfl
 | n+1=>by rw [Jt5,Jzd,Jyp ks p n,List.range_succ,List.countP_append,List.countP_singleton]
theorem J6x {ks:List Tree} (h:okK ks) {i p:Nat} (hp:(Jqv ks)[p]? = some i):Jr0 ks i ks.length=p:=by
 unfold Jr0;rw [← Jyp ks _ ks.length];show (Jqv ks).countP _=p;have ho:=Jvt h;generalize Jqv ks=S at *
 induction S generalizing p with
 | nil=>cases hp
 | cons x l ih =>
  obtain ⟨h1,h2⟩:=List.pairwise_cons.1 ho;rw [List.countP_cons];cases p with
  | zero =>
   cases hp;rw [Jz5 h];have:l.countP (fun j=>ltB ks j i)=0:=by
    rw [List.countP_eq_zero];intro a ha;rw [J15 h (h1 a ha)];exact Bool.false_ne_true
   rw [this];rfl
  | succ p =>
   have hp':l[p]? = some i:=hp;rw [ih hp' h2,h1 i (List.mem_of_getElem? hp')];rfl
theorem J61 {ks:List Tree} (h:okK ks) {i:Nat} (hi:i<ks.length):Jr0 ks i ks.length<ks.length∧(Jqv ks)[Jr0 ks i ks.length]? = some i:=by
 obtain ⟨p,hp⟩:=List.getElem?_of_mem (Jrs.2 hi);rw [J6x h hp];have:=(List.getElem?_eq_some_iff.1 hp).1;rw [Jsq] at this;exact ⟨this,hp⟩
def Jrh (ks:List Tree) (i:Nat):List Nat:=(Jqv ks).map fun s=>if s<i then s else 0
theorem J2q (ks:List Tree):Jrh ks 0=List.replicate ks.length 0:=by
 unfold Jrh;rw [← Jsq ks];exact List.eq_replicate_iff.2 ⟨by simp,fun b hb=>by obtain ⟨s,_,rfl⟩:=List.mem_map.1 hb;simp⟩
theorem Jya (ks:List Tree) (i:Nat):(Jrh ks i).length=ks.length:=by rw [Jrh,List.length_map,Jsq]
theorem J4c (ks:List Tree):Jrh ks ks.length=Jqv ks:=by
 unfold Jrh
 conv=>rhs;rw [← List.map_id (Jqv ks)]
 refine List.map_congr_left fun s hs=>?_
 rw [if_pos (Jrs.1 hs)];rfl
theorem J4k {ks:List Tree} (h:okK ks) {i:Nat} (hi:i<ks.length):(Jrh ks i).set (Jr0 ks i ks.length) i=Jrh ks (i+1):=by
 obtain ⟨h1,h2⟩:=J61 h hi;unfold Jrh;apply List.ext_getElem?;intro q;rw [List.getElem?_set,List.length_map,Jsq];by_cases e:Jr0 ks i ks.length=q
 ·subst e;rw [if_pos rfl,if_pos h1,List.getElem?_map,h2,Option.map_some,if_pos (Nat.lt_succ_self i)]
 ·rw [if_neg e,List.getElem?_map,List.getElem?_map];cases hq:(Jqv ks)[q]? with
  | none=>rfl
  | some s =>
   have:s≠i:=fun e'=>e (by subst e';exact J6x h hq)
   rw [Option.map_some,Option.map_some];by_cases c:s<i
   ·rw [if_pos c,if_pos omg]
   ·rw [if_neg c,if_neg omg]
def Jql (l:List Tree) (S:List Nat):List Tree:=S.map fun i=>Jqz l i
theorem pick_map (l:List Tree) (f:Tree→Tree) {S:List Nat} (hS:∀ i∈S,i<l.length):Jql (l.map f) S=(Jql l S).map f:=by
 unfold Jql;rw [List.map_map];refine List.map_congr_left fun i hi=>?_
 have hl:=hS i hi;simp [Jqz,List.getD_eq_getElem?_getD,List.getElem?_eq_getElem hl]
theorem Jus {l:List Tree} (h:l.Pairwise fun a b=>cmpT a b≤0) (ho:okK l):Jr5 l=true:=by
 rw [Jul];intro i a b ha hb;obtain ⟨i1,rfl⟩:=List.getElem?_eq_some_iff.1 ha;obtain ⟨i2,rfl⟩:=List.getElem?_eq_some_iff.1 hb;have:=(List.pairwise_iff_getElem.1 h) i (i+1) i1 i2 omg;rw [Jvh (ho _ (List.getElem_mem i1)) (ho _ (List.getElem_mem i2))];omega
theorem Juy:∀ {l:List Tree},okK l→Jr5 l=true→l.Pairwise fun a b=>cmpT a b≤0
 | [],_,_=>.nil
 | [a],_,_=>by simp
 | a :: b :: l,ho,h=>by
  rw [Jr5,Bool.and_eq_true,decide_eq_true_eq] at h;have oa:=ho a List.mem_cons_self;have ob:=ho b (List.mem_cons_of_mem _ List.mem_cons_self);have ih:=Juy (l:=b :: l) (fun t ht=>ho t (List.mem_cons_of_mem _ ht)) h.2;have hab:cmpT a b≤0:=by rw [Jvh ob oa];omega
  refine List.pairwise_cons.2 ⟨fun c hc=>?_,ih⟩;rcases List.mem_cons.1 hc with rfl | hc
  ·exact hab
  ·exact J1e oa ob (ho c (List.mem_cons_of_mem _ (List.mem_cons_of_mem _ hc))) hab ((List.pairwise_cons.1 ih).1 c hc)
theorem J28 {ks:List Tree} (h:okK ks):Jr5 (Jql ks (Jqv ks))=true:=by
 refine Jus ?_ (fun t ht=>?_)
 ·unfold Jql;rw [List.pairwise_map];refine (Jvt h).imp fun {a b} e=>?_
  unfold ltB at e;rw [decide_eq_true_eq] at e;omega
 ·obtain ⟨i,_,rfl⟩:=List.mem_map.1 ht;exact Jsu h i
theorem Jws {ks:List Tree} (h:okK ks) (hr:Jr5 ks=true):Jqv ks=List.range ks.length:=by
 symm;refine J21 h (fun i=>List.mem_range) ?_;rw [List.pairwise_iff_getElem];intro i j hi hj hij;rw [List.length_range] at hi hj;rw [List.getElem_range,List.getElem_range];unfold ltB;rw [decide_eq_true_eq];have:=List.pairwise_iff_getElem.1 (Juy h hr) i j hi hj hij;rw [Jre (List.getElem?_eq_getElem hi),Jre (List.getElem?_eq_getElem hj)];omega
theorem Jwk (l:List Tree):Jql l (List.range l.length)=l:=by
 unfold Jql;apply List.ext_getElem
 ·simp
 ·intro i h1 h2;rw [List.getElem_map,List.getElem_range,Jre (List.getElem?_eq_getElem h2)]
def Ju8 (ks:List Tree) (st:List (List Nat)×List Nat) (a:Nat):List (List Nat)×List Nat :=
 if st.2≠[]∧cmpT (Jqz ks a) (Jqz ks (st.2.headD 0))≠0 then (st.1 ++ [st.2],[a]) else (st.1,st.2 ++ [a])
def Jrz (ks:List Tree) (l:List Nat):List (List Nat)×List Nat:=l.foldl (Ju8 ks) ([],[])
def Jq6 (st:List (List Nat)×List Nat):List (List Nat):=if st.2=[] then st.1 else st.1 ++ [st.2]
def Jqt (ks:List Tree):List (List Nat):=Jq6 (Jrz ks (Jqv ks))
theorem J54 (ks:List Tree) (l:List Nat) (a:Nat):Jrz ks (l ++ [a])=Ju8 ks (Jrz ks l) a:=by simp [Jrz,List.foldl_append]
theorem J02 {ks:List Tree} {l:List Nat} {i a:Nat} (h:l[i]? = some a):Jrz ks (l.take (i+1))=Ju8 ks (Jrz ks (l.take i)) a:=by
 rw [List.take_add_one,h,Option.toList_some,J54]
structure GInv (ks:List Tree) (l:List Nat) (st:List (List Nat)×List Nat):Prop where
 flat:st.1.flatten ++ st.2=l
 opn:l≠[]→st.2≠[]
 ne:∀ g∈st.1,g≠[]
 same:∀ g∈Jq6 st,∀ i∈g,Jqz ks i=Jqz ks (g.headD 0)
 rise:(Jq6 st).Pairwise fun g h=>cmpT (Jqz ks (g.headD 0)) (Jqz ks (h.headD 0))<0
theorem Jxe {g:List Nat} (h:g≠[]):g.headD 0∈g:=by
 cases g with
 | nil=>exact absurd rfl h
 | cons a g=>exact List.mem_cons_self
theorem Jtt {st:List (List Nat)×List Nat} (h:st.2≠[]):Jq6 st=st.1 ++ [st.2]:=by rw [Jq6,if_neg h]
theorem J8g {ks:List Tree} (ok:okK ks) {l:List Nat} {a:Nat} {st:List (List Nat)×List Nat} (h:GInv ks l st) (hl:∀ x∈l,cmpT (Jqz ks x) (Jqz ks a)≤0):GInv ks (l ++ [a]) (Ju8 ks st a):=by
 obtain ⟨o,g⟩:=st;obtain ⟨h1,h2,h3,h4,h5⟩:=h;unfold Ju8;simp only at h1 h2 h3 h4 h5 ⊢;by_cases hg:g=[]
 ·subst hg;have hl0:l=[]:=Classical.byContradiction fun e=>h2 e rfl
  subst hl0;rw [List.append_nil] at h1;rw [if_neg sm];have ho:o=[]:=by
   cases o with
   | nil=>rfl
   | cons x o =>
    rw [List.flatten_cons] at h1;have:=h3 x List.mem_cons_self;exact absurd (List.append_eq_nil_iff.1 h1).1 this
  subst ho;refine ⟨rfl,fun _=>by simp,fun _ h=>(by cases h),fun g hg i hi=>?_,?_⟩
  ·simp [Jq6] at hg;subst hg;simp at hi;subst hi;rfl
  ·simp [Jq6]
 ·have hh:=Jxe hg;have hml:∀ x∈g,x∈l:=fun x hx=>by rw [← h1];exact List.mem_append_right _ hx
  have hle:=hl _ (hml _ hh);rw [Jtt hg] at h4 h5;simp only at h4 h5;by_cases hc:cmpT (Jqz ks a) (Jqz ks (g.headD 0))=0
  ·rw [if_neg (fun h=>h.2 hc)];have hk:=Juh (Jsu ok a) (Jsu ok _) hc;have hd:((g ++ [a]).headD 0)=g.headD 0:=by
    cases g with
    | nil=>exact absurd rfl hg
    | cons x g=>rfl
   refine ⟨by rw [← List.append_assoc,h1],fun _=>by simp,h3,?_,?_⟩
   ·rw [Jtt sm];intro q hq i hi;rcases List.mem_append.1 hq with hq | hq
    ·exact h4 q (List.mem_append_left _ hq) i hi
    ·simp only [List.mem_singleton] at hq;subst hq;rw [hd];rcases List.mem_append.1 hi with hi | hi
     ·exact h4 g (List.mem_append_right _ (List.mem_singleton.2 rfl)) i hi
     ·simp only [List.mem_singleton] at hi;subst hi;exact hk
   ·rw [Jtt sm];simp only;rw [List.pairwise_append] at h5 ⊢;refine ⟨h5.1,by simp,fun q hq r hr=>?_⟩;simp only [List.mem_singleton] at hr;subst hr;rw [hd];exact h5.2.2 q hq g (List.mem_singleton.2 rfl)
  ·rw [if_pos ⟨hg,hc⟩];have hlt:cmpT (Jqz ks (g.headD 0)) (Jqz ks a)<0:=by
    rw [Jvh (Jsu ok _) (Jsu ok _)] at hc;omega
   refine ⟨by rw [List.flatten_append,List.flatten_cons,List.flatten_nil,List.append_nil,h1],fun _=>by simp,fun q hq=>?_,?_,?_⟩
   ·rcases List.mem_append.1 hq with hq | hq
    ·exact h3 q hq
    ·simp only [List.mem_singleton] at hq;subst hq;exact hg
   ·rw [Jtt sm];intro q hq i hi;rcases List.mem_append.1 hq with hq | hq
    ·exact h4 q hq i hi
    ·simp only [List.mem_singleton] at hq;subst hq;simp only [List.mem_singleton] at hi;subst hi;rfl
   ·rw [Jtt sm];simp only;rw [List.pairwise_append];refine ⟨h5,by simp,fun q hq r hr=>?_⟩;simp only [List.mem_singleton] at hr;subst hr;show cmpT (Jqz ks (q.headD 0)) (Jqz ks a)<0;rcases List.mem_append.1 hq with hq' | hq'
    ·exact Jum (Jsu ok _) (Jsu ok _) (Jsu ok _) ((List.pairwise_append.1 h5).2.2 q hq' g (List.mem_singleton.2 rfl)) hlt
    ·simp only [List.mem_singleton] at hq';subst hq';exact hlt
theorem Jxw {ks:List Tree} (ok:okK ks) {l:List Nat} (hl:l.Pairwise fun a b=>cmpT (Jqz ks a) (Jqz ks b)≤0):∀ i,i≤l.length→GInv ks (l.take i) (Jrz ks (l.take i))
 | 0,_=>by
  rw [List.take_zero];exact ⟨rfl,fun h=>absurd rfl h,fun _ h=>(by cases h),fun _ h=>by simp [Jrz,Jq6] at h,by simp [Jrz,Jq6]⟩
 | i+1,h=>by
  obtain ⟨a,ha⟩:∃ a,l[i]? = some a:=⟨_,List.getElem?_eq_getElem omg⟩
  rw [J02 ha,List.take_add_one,ha,Option.toList_some];refine J8g ok (Jxw ok hl i omg) fun x hx=>?_
  have h2:(l.take i ++ [a]).Pairwise fun a b=>cmpT (Jqz ks a) (Jqz ks b)≤0:=by
   have h3:(l.take (i+1)).Pairwise fun a b=>cmpT (Jqz ks a) (Jqz ks b)≤0:=List.Pairwise.sublist (List.take_sublist _ _) hl
   rw [List.take_add_one,ha,Option.toList_some] at h3;exact h3
  exact (List.pairwise_append.1 h2).2.2 x hx a (List.mem_singleton.2 rfl)
theorem J7n {ks:List Tree} (ok:okK ks):(Jqv ks).Pairwise fun a b=>cmpT (Jqz ks a) (Jqz ks b)≤0 :=
 (Jvt ok).imp fun {a b} e=>by
  unfold ltB at e;rw [decide_eq_true_eq] at e;omega
theorem Jta {ks:List Tree} (ok:okK ks):GInv ks (Jqv ks) (Jrz ks (Jqv ks)):=by
 have:=Jxw ok (J7n ok) (Jqv ks).length (Nat.le_refl _);rw [List.take_length] at this;exact this
theorem Juk {ks:List Tree} {l:List Nat} {st:List (List Nat)×List Nat} (h:GInv ks l st):(Jq6 st).flatten=l:=by
 obtain ⟨o,g⟩:=st;have h1:=h.flat;unfold Jq6;simp only at h1 ⊢;split
 ·rename_i e;rw [e,List.append_nil] at h1;exact h1
 ·rw [List.flatten_append,List.flatten_cons,List.flatten_nil,List.append_nil];exact h1
theorem Jve {ks:List Tree} {l:List Nat} {st:List (List Nat)×List Nat} (h:GInv ks l st):∀ g∈Jq6 st,g≠[]:=by
 obtain ⟨o,g⟩:=st;intro q hq;unfold Jq6 at hq;simp only at hq;split at hq
 ·exact h.ne q hq
 ·rcases List.mem_append.1 hq with hq | hq
  ·exact h.ne q hq
  ·simp only [List.mem_singleton] at hq;subst hq;assumption
structure GoodG (kf:Tree→Tree) (gs:List (List Tree)):Prop where
 ne:∀ g∈gs,g≠[]
 same:∀ g∈gs,∀ x∈g,kf x=kf (g.headD nilT)
 apart:gs.Pairwise fun g h=>kf (g.headD nilT)≠kf (h.headD nilT)
theorem Jv6 {α:Type} (p:α→Bool):∀ {a b:List α},(∀ x∈a,p x=true)→(∀ x∈b,p x=false)→(a ++ b).takeWhile p=a
 | [],[],_,_=>rfl
 | [],y :: b,_,h=>by rw [List.nil_append,List.takeWhile_cons,h y List.mem_cons_self];rfl
 | x :: a,b,h,h'=>by rw [List.cons_append,List.takeWhile_cons,h x List.mem_cons_self,if_pos rfl,Jv6 p (fun y hy=>h y (List.mem_cons_of_mem _ hy)) h']
open Classical in
theorem Jx6 {kf:Tree→Tree}:∀ {a b:List (List Tree)},GoodG kf a→GoodG kf b→a.flatten=b.flatten→a=b
 | [],[],_,_,_=>rfl
 | [],h :: b,_,hb,e=>by
  rw [List.flatten_cons,List.flatten_nil] at e;exact absurd (List.append_eq_nil_iff.1 e.symm).1 (hb.ne h List.mem_cons_self)
 | g :: a,[],ha,_,e=>by
  rw [List.flatten_cons,List.flatten_nil] at e;exact absurd (List.append_eq_nil_iff.1 e).1 (ha.ne g List.mem_cons_self)
 | g :: a,h :: b,ha,hb,e=>by
  rw [List.flatten_cons,List.flatten_cons] at e;have one:∀ {g:List Tree} {a:List (List Tree)},GoodG kf (g :: a)→(g ++ a.flatten).takeWhile (fun y=>decide (kf y=kf ((g ++ a.flatten).headD nilT)))=g:=by
   intro g a h;have hd:(g ++ a.flatten).headD nilT=g.headD nilT:=by
    have:=h.ne g List.mem_cons_self;cases g with
    | nil=>exact absurd rfl this
    | cons x g=>rfl
   rw [hd];refine Jv6 _ (fun x hx=>decide_eq_true (h.same g List.mem_cons_self x hx)) fun x hx=>decide_eq_false ?_
   obtain ⟨q,hq,hx⟩:=List.mem_flatten.1 hx;rw [h.same q (List.mem_cons_of_mem _ hq) x hx];exact fun e=>(List.pairwise_cons.1 h.apart).1 q hq e.symm
  have e1:=one ha;rw [e,one hb] at e1;subst e1;have tl:∀ {g:List Tree} {a:List (List Tree)},GoodG kf (g :: a)→GoodG kf a:=fun h =>
   ⟨fun q hq=>h.ne q (List.mem_cons_of_mem _ hq),fun q hq=>h.same q (List.mem_cons_of_mem _ hq),(List.pairwise_cons.1 h.apart).2⟩
  rw [Jx6 (tl ha) (tl hb) (List.append_cancel_left e)]
theorem J1w (l:List Tree) (gs:List (List Nat)):(gs.map (Jql l)).flatten=Jql l gs.flatten:=by
 unfold Jql;rw [List.map_flatten]
theorem Jyv {l:List Tree} {kf:Tree→Tree} {i:Nat} (h:i<l.length):Jqz (l.map kf) i=kf (Jqz l i):=by
 simp [Jqz,List.getD_eq_getElem?_getD,List.getElem?_eq_getElem h]
theorem Jx4 {l:List Tree} {g:List Nat} (h:g≠[]):(Jql l g).headD nilT=Jqz l (g.headD 0):=by
 cases g with
 | nil=>exact absurd rfl h
 | cons a g=>rfl
theorem Jye {kf:Tree→Tree} {l:List Tree} (ok:okK (l.map kf)) :
  (∀ g∈(Jqt (l.map kf)).map (Jql l),g≠[])∧(∀ g∈(Jqt (l.map kf)).map (Jql l),∀ x∈g,kf x=kf (g.headD nilT)) ∧
  ((Jqt (l.map kf)).map (Jql l)).Pairwise (fun g h=>cmpT (kf (g.headD nilT)) (kf (h.headD nilT))<0)∧((Jqt (l.map kf)).map (Jql l)).flatten=Jql l (Jqv (l.map kf)):=by
 have hI:=Jta ok;have hF:=Juk hI;have hN:=Jve hI;have hlt:∀ g∈Jqt (l.map kf),∀ i∈g,i<l.length:=fun g hg i hi=>by
  have:i∈Jqv (l.map kf):=by rw [← hF];exact List.mem_flatten.2 ⟨g,hg,hi⟩
  have:=Jrs.1 this;rw [List.length_map] at this;exact this
 refine ⟨fun q hq=>?_,fun q hq x hx=>?_,?_,?_⟩
 ·obtain ⟨g,hg,rfl⟩:=List.mem_map.1 hq;have:=hN g hg;intro e;exact this (List.map_eq_nil_iff.1 e)
 ·obtain ⟨g,hg,rfl⟩:=List.mem_map.1 hq;obtain ⟨i,hi,rfl⟩:=List.mem_map.1 hx;have h0:=Jxe (hN g hg);rw [Jx4 (hN g hg),← Jyv (kf:=kf) (hlt g hg i hi),← Jyv (kf:=kf) (hlt g hg _ h0)];exact hI.same g hg i hi
 ·rw [List.pairwise_map];refine List.Pairwise.imp_of_mem ?_ hI.rise;intro g h hg hh e;rw [Jx4 (hN g hg),Jx4 (hN h hh),← Jyv (kf:=kf) (hlt g hg _ (Jxe (hN g hg))),← Jyv (kf:=kf) (hlt h hh _ (Jxe (hN h hh)))];exact e
 ·rw [J1w];show Jql l (Jq6 (Jrz (l.map kf) (Jqv (l.map kf)))).flatten=_;rw [hF]
theorem J49 {kf:Tree→Tree} {gs:List (List Tree)} (ok:okK (gs.flatten.map kf)) (h1:∀ g∈gs,g≠[]) (h2:∀ g∈gs,∀ x∈g,kf x=kf (g.headD nilT)) (h3:gs.Pairwise fun g h=>cmpT (kf (g.headD nilT)) (kf (h.headD nilT))<0) :
  (Jqt (gs.flatten.map kf)).map (Jql gs.flatten)=gs:=by
 have okx:∀ g∈gs,∀ x∈g,okT (kf x):=fun g hg x hx=>ok _ (List.mem_map.2 ⟨x,List.mem_flatten.2 ⟨g,hg,hx⟩,rfl⟩)
 have hdm:∀ g∈gs,g.headD nilT∈g:=fun g hg=>by
  have:=h1 g hg;cases g with
  | nil=>exact absurd rfl this
  | cons a g=>exact List.mem_cons_self
 obtain ⟨a1,a2,a3,a4⟩:=Jye ok;have hr:Jr5 (gs.flatten.map kf)=true:=by
  refine Jus ?_ ok;rw [List.pairwise_map,List.pairwise_flatten];refine ⟨fun g hg=>?_,?_⟩
  ·refine List.pairwise_of_forall_mem_list ?_;intro x hx y hy;rw [h2 g hg x hx,h2 g hg y hy,Jvl (okx g hg _ (hdm g hg))];exact Int.le_refl _
  ·refine List.Pairwise.imp_of_mem ?_ h3;intro g h hg hh e x hx y hy;rw [h2 g hg x hx,h2 h hh y hy];omega
 refine Jx6 (kf:=kf) ⟨a1,a2,?_⟩ ⟨h1,h2,?_⟩ ?_
 ·refine List.Pairwise.imp_of_mem ?_ a3;intro g h hg hh e e';rw [e'] at e;have hx:h.headD nilT∈gs.flatten:=by
   have h5:h.headD nilT∈((Jqt (gs.flatten.map kf)).map (Jql gs.flatten)).flatten:=List.mem_flatten.2 ⟨h,hh,by
    have:=a1 h hh;cases h with
    | nil=>exact absurd rfl this
    | cons a g=>exact List.mem_cons_self⟩
   rw [a4] at h5;obtain ⟨i,hi,e⟩:=List.mem_map.1 h5;rw [← e];have:=Jrs.1 hi;rw [List.length_map] at this;rw [Jre (List.getElem?_eq_getElem this)];exact List.getElem_mem this
  rw [Jvl (ok _ (List.mem_map.2 ⟨_,hx,rfl⟩))] at e;omega
 ·refine List.Pairwise.imp_of_mem ?_ h3;intro g h hg hh e e';rw [e',Jvl (okx h hh _ (hdm h hh))] at e;omega
 ·rw [a4,Jws ok hr,List.length_map,Jwk]
def natL (S:List Nat):List (List PV):=S.map fun (i:Nat)=>[.int .i64 (i:Int)]
@[simp] theorem Jst (S:List Nat):(natL S).length=S.length:=by simp [natL]
theorem J0y {S:List Nat} {k i:Nat} (h:S[k]? = some i):(natL S)[k]? = some [.int .i64 (i:Int)]:=by simp [natL,h]
theorem natL_app (a b:List Nat):natL (a ++ b)=natL a ++ natL b:=by simp [natL]
theorem Jvs (a b:List Tree):Jqm (a ++ b)=Jqm a ++ Jqm b:=by simp [Jqm]
@[simp] theorem pick_nil (l:List Tree):Jql l []=[]:=rfl
@[simp] theorem J7x:Jqm []=[]:=rfl
@[simp] theorem natL_nil:natL []=[]:=rfl
theorem J6f (ks:List Tree) (i:Nat):Jr0 ks i 0=0:=rfl
theorem J8d (ks:List Tree):Jrz ks []=([],[]):=rfl
theorem Jy5 (l:List Tree) (S:List Nat):(Jql l S).length=S.length:=by simp [Jql]
theorem J8v {l:List Tree} {S:List Nat} {k i:Nat} {t:Tree} (h:S[k]? = some i) (ht:l[i]? = some t):Jqm (Jql l (S.take (k+1)))=Jqm (Jql l (S.take k)) ++ [[.sl (valL (t.enc []))]]:=by
 rw [List.take_add_one,h,Option.toList_some];unfold Jql;rw [List.map_append,Jvs,List.map_cons,List.map_nil,Jre ht];rfl
theorem J7g (S:List Nat):∀ q∈natL S,q.length=1:=by
 intro q hq;obtain ⟨i,_,rfl⟩:=List.mem_map.1 hq;rfl
theorem treeL_el (l:List Tree):∀ q∈Jqm l,q.length=1:=by
 intro q hq;obtain ⟨i,_,rfl⟩:=List.mem_map.1 hq;rfl
theorem J69 (l:List Tree) (S:List Nat) (hS:∀ i∈S,i<l.length) (hl:S.length≤1000000) (hll:l.length≤1000000):Det cx 161 [.p (.sl (Jqm l)),.p (.sl (natL S))] [] (.p (.sl (Jqm (Jql l S)))) []:=by
 (refine bgo Tryz.func161 ?_;simp only [go_sem,Nat.reduceLT,Nat.reduceLeDiff,Nat.reduceMul,↓reduceIte]);refine Jq0 (B1 [(7,23)] _ sm) ?_;simp only [go_sem,↓reduceIte];refine SWP.loop (fun k:Nat=>⟨Ba 25 [(0,.p (.sl (Jqm l))),(1,.p (.sl (natL S))),(5,.own 23 0 k),(6,.p (.int .i64 k))],[(23,.row 25 1 (Jqm (Jql l (S.take k))))]⟩) (fun k=>k≤S.length) (fun k=>S.length - k) 0 (by rw [List.take_zero,pick_nil,J7x];exact Jqb) (Nat.zero_le _) ?_;rintro k hk;by_cases hlt:¬ k<S.length
 ·have hk2:k=S.length:=by omega
  subst hk2;have c1:((S.length:Int)<(S.length:Int))=False:=eq_false omg;have ht1:S.take S.length=S:=List.take_of_length_le (Nat.le_refl _);have ht2:(Jqm (Jql l S)).take S.length=Jqm (Jql l S):=List.take_of_length_le (by rw [Jqq,Jy5];exact Nat.le_refl _);have hle:(S.length≤S.length)=True:=eq_true (Nat.le_refl _);(refine lws ?_;simp only [go_sem,Nat.reduceLT,Nat.reduceEqDiff,↓reduceIte,reduceCtorEq,Jqq,Jst,c1,ht1,ht2,Jy5,hle])
  skip
 ·have hlt:=Decidable.not_not.1 hlt;have c1:((k:Int)<(S.length:Int))=True:=eq_true omg;obtain ⟨i,hi⟩:∃ i,S[k]? = some i:=⟨_,List.getElem?_eq_getElem hlt⟩
  have hil:=hS i (List.mem_of_getElem? hi);obtain ⟨t,ht⟩:∃ t,l[i]? = some t:=⟨_,List.getElem?_eq_getElem hil⟩
  have hg1:=J0y hi;have hg2:=Jr4 ht;have hpl:(Jqm (Jql l (S.take k))).length=k:=by rw [Jqq,Jy5,List.length_take];omega
  have htk:=J8v hi ht;(refine lws ?_;simp only [go_sem,Nat.reduceLT,Nat.reduceLeDiff,Nat.reduceEqDiff,Nat.reduceMul,↓reduceIte,reduceCtorEq,Jst,c1,hg1,hg2,hpl,wj1 (i:=k) omg]);(repeat' (first | (refine And.intro (by first | (simp;done)|(simp;omega)) ?_)|(refine Jqe ?_) | fail));exact ⟨k+1,by omega,by omega,by rw [htk];exact Jqb⟩
theorem ltB_iff {ks:List Tree} {i j:Nat} {a b:Tree} (ha:ks[i]? = some a) (hb:ks[j]? = some b):ltB ks i j=decide (cmpT a b<0∨cmpT a b=0∧i<j):=by
 rw [ltB,Jre ha,Jre hb]
theorem J65 (ks:List Tree) (hk:okTs ks):Det cx 162 [.p (.sl (Jqm ks))] [] (.p (.sl (natL (Jqv ks)))) []:=by
 obtain ⟨hll,ho⟩:=hk;have ok:okK ks:=fun t ht=>(ho t ht).1
 have hz:List.replicate ks.length [PV.int .i64 0]=natL (Jrh ks 0):=by rw [J2q];simp [natL]
 (refine bgo Tryz.func162 ?_;simp only [go_sem,Nat.reduceLT,↓reduceIte,reduceCtorEq,Jqq]);(repeat' (first | (refine Jqe ?_) | fail));refine SWP.loop (fun i:Nat=>⟨Ba 50 [(0,.p (.sl (Jqm ks))),(3,.own 10 0 ks.length),(4,.p (.int .i64 i))],[(10,.row 3 1 (natL (Jrh ks i)))]⟩) (fun i=>i≤ks.length) (fun i=>ks.length - i) 0 (by rw [← hz];exact Jqb) (Nat.zero_le _) ?_;rintro i hi;have hrl:(natL (Jrh ks i)).length=ks.length:=by rw [Jst,Jya]
 by_cases hlt:¬ i<ks.length
 ·have hk2:i=ks.length:=by omega
  subst hk2;have c1:((ks.length:Int)<(ks.length:Int))=False:=eq_false omg;have ht2:(natL (Jrh ks ks.length)).take ks.length=natL (Jqv ks):=by rw [List.take_of_length_le omg,J4c]
  have hle:(ks.length≤ks.length)=True:=eq_true (Nat.le_refl _);(refine lws ?_;simp only [go_sem,Nat.reduceLT,Nat.reduceEqDiff,↓reduceIte,reduceCtorEq,Jqq,c1,ht2,hrl,hle])
  skip
 ·have hlt:=Decidable.not_not.1 hlt;have c1:((i:Int)<(ks.length:Int))=True:=eq_true omg;obtain ⟨t,ht⟩:∃ t,ks[i]? = some t:=⟨_,List.getElem?_eq_getElem hlt⟩
  have hgt:=Jr4 ht;have okt:=ho t (List.mem_of_getElem? ht);(refine lws ?_;simp only [go_sem,Nat.reduceLT,Nat.reduceEqDiff,↓reduceIte,reduceCtorEq,Jqq,c1]);refine SWP.loop (fun k:Nat=>⟨Ba 50 [(0,.p (.sl (Jqm ks))),(3,.own 10 0 ks.length),(4,.p (.int .i64 i)),(5,.p (.int .i64 (Jr0 ks i k))),(6,.p (.int .i64 k))],[(10,.row 3 1 (natL (Jrh ks i)))]⟩) (fun k=>k≤ks.length) (fun k=>ks.length - k) 0 (by rw [J6f];exact Jqb) (Nat.zero_le _) ?_;rintro k hkk;have hrk:=rankK_le ks i k;by_cases hlk:¬ k<ks.length
  ·have hk2:k=ks.length:=by omega
   subst hk2;have c2:((ks.length:Int)<(ks.length:Int))=False:=eq_false omg;obtain ⟨r1,r2⟩:=J61 ok hlt;have hset:(natL (Jrh ks i)).set (Jr0 ks i ks.length) [.int .i64 (i:Int)]=natL (Jrh ks (i+1)):=by
    rw [← J4k ok hlt];simp [natL,List.map_set]
   obtain ⟨x,hx⟩:∃ x,(natL (Jrh ks i))[Jr0 ks i ks.length]? = some [x]:=by
    obtain ⟨y,hy⟩:∃ y,(Jrh ks i)[Jr0 ks i ks.length]? = some y:=⟨_,List.getElem?_eq_getElem (by rw [Jya];exact r1)⟩
    exact ⟨_,J0y hy⟩
   (refine lws ?_;simp only [go_sem,Nat.reduceLT,Nat.reduceLeDiff,Nat.reduceEqDiff,↓reduceIte,reduceCtorEq,Jqq,c2,hset,hx,wj1 (i:=i) omg]);(repeat' (first | (refine Jqe ?_) | fail));exact ⟨i+1,by omega,by omega,Jqb⟩
  ·have hlk:=Decidable.not_not.1 hlk;have c2:((k:Int)<(ks.length:Int))=True:=eq_true omg;obtain ⟨u,hu⟩:∃ u,ks[k]? = some u:=⟨_,List.getElem?_eq_getElem hlk⟩
   have hgu:=Jr4 hu;have oku:=ho u (List.mem_of_getElem? hu);have hC:=Jx5 (u.enc []).length u t (Nat.le_refl _) oku.1 okt.1 oku.2 okt.2;have hs:=J6b ks i k;rw [ltB_iff hu ht] at hs;have wr:IntKind.i64.wrap (((Jr0 ks i k:Nat):Int)+1)=((Jr0 ks i k+1:Nat):Int):=by rw [Aa omg omg];omega
   by_cases ca:cmpT u t<0
   ·have c3:=eq_true ca;have hs':Jr0 ks i (k+1)=Jr0 ks i k+1:=by rw [hs];simp [ca]
    (refine lws ?_;simp only [go_sem,Nat.reduceLT,Nat.reduceEqDiff,↓reduceIte,reduceCtorEq,Jqq,c2,wj1 (i:=k) omg,decide_true]);(repeat' (first | ((first | (refine Jqk ?_)|(refine Jqd (hC) ?_));simp only [go_sem,Nat.reduceLT,Nat.reduceEqDiff,↓reduceIte,reduceCtorEq,hgu,hgt,c3,wr,wj1 (i:=k) omg,decide_true]) | fail));exact ⟨k+1,by omega,by omega,by rw [hs'];exact Jqb⟩
   ·have c3:=eq_false ca;by_cases cb:cmpT u t=0
    ·have c4:=eq_true cb;by_cases cd:k<i
     ·have c5:((k:Int)<(i:Int))=True:=eq_true omg;have hs':Jr0 ks i (k+1)=Jr0 ks i k+1:=by rw [hs];simp [cb,cd]
      (refine lws ?_;simp only [go_sem,Nat.reduceLT,Nat.reduceEqDiff,↓reduceIte,reduceCtorEq,Jqq,c2,wj1 (i:=k) omg,decide_true]);(repeat' (first | ((first | (refine Jqk ?_)|(refine Jqd (hC) ?_));simp only [go_sem,Nat.reduceLT,Nat.reduceEqDiff,↓reduceIte,reduceCtorEq,hgu,hgt,c3,c4,c5,wr,wj1 (i:=k) omg,decide_true,decide_false]) | fail));exact ⟨k+1,by omega,by omega,by rw [hs'];exact Jqb⟩
     ·have c5:((k:Int)<(i:Int))=False:=eq_false omg;have hs':Jr0 ks i (k+1)=Jr0 ks i k:=by rw [hs];simp [cb,cd]
      (refine lws ?_;simp only [go_sem,Nat.reduceLT,Nat.reduceEqDiff,↓reduceIte,reduceCtorEq,Jqq,c2,wj1 (i:=k) omg,decide_true]);(repeat' (first | ((first | (refine Jqk ?_)|(refine Jqd (hC) ?_));simp only [go_sem,Nat.reduceLT,Nat.reduceEqDiff,↓reduceIte,reduceCtorEq,hgu,hgt,c3,c4,c5,wj1 (i:=k) omg,decide_false]) | fail));exact ⟨k+1,by omega,by omega,by rw [hs'];exact Jqb⟩
    ·have c4:=eq_false cb;have hs':Jr0 ks i (k+1)=Jr0 ks i k:=by rw [hs];simp [ca,cb]
     (refine lws ?_;simp only [go_sem,Nat.reduceLT,Nat.reduceEqDiff,↓reduceIte,reduceCtorEq,Jqq,c2,wj1 (i:=k) omg,decide_true]);(repeat' (first | ((first | (refine Jqk ?_)|(refine Jqd (hC) ?_));simp only [go_sem,Nat.reduceLT,Nat.reduceEqDiff,↓reduceIte,reduceCtorEq,hgu,hgt,c3,c4,wj1 (i:=k) omg,decide_false]) | fail));exact ⟨k+1,by omega,by omega,by rw [hs'];exact Jqb⟩
def Jrv (o:List (List Nat)):List (List PV):=o.map fun g=>[.sl (natL g)]
@[simp] theorem groupL_nil:Jrv []=[]:=rfl
@[simp] theorem Jtr (o:List (List Nat)):(Jrv o).length=o.length:=by simp [Jrv]
theorem Jzz (a b:List (List Nat)):Jrv (a ++ b)=Jrv a ++ Jrv b:=by simp [Jrv]
theorem J55 {o:List (List Nat)} {k:Nat} {g:List Nat} (h:o[k]? = some g):(Jrv o)[k]? = some [.sl (natL g)]:=by simp [Jrv,h]
theorem J8f {ks:List Tree} {l:List Nat} {st:List (List Nat)×List Nat} (h:GInv ks l st):st.1.length+st.2.length≤l.length:=by
 have h1:=congrArg List.length h.flat;rw [List.length_append] at h1;have h2:∀ {o:List (List Nat)},(∀ g∈o,g≠[])→o.length≤o.flatten.length:=by
  intro o
  induction o with
  | nil=>intro _;simp
  | cons g o ih =>
   intro h;have:=ih fun q hq=>h q (List.mem_cons_of_mem _ hq)
   have hg:=h g List.mem_cons_self;have:0<g.length:=List.length_pos_iff.2 hg;rw [List.length_cons,List.flatten_cons,List.length_append];omega
 have:=h2 h.ne;omega
theorem J8n (ks:List Tree) (hk:okTs ks):Det cx 163 [.p (.sl (Jqm ks))] [] (.p (.sl (Jrv (Jqt ks)))) []:=by
 obtain ⟨hll,ho⟩:=hk;have ok:okK ks:=fun t ht=>(ho t ht).1
 have hS:=J65 ks ⟨hll,ho⟩;have hsl:=Jsq ks;have hsm:∀ i∈Jqv ks,i<ks.length:=fun i h=>Jrs.1 h
 have hgr:Jqt ks=Jq6 (Jrz ks (Jqv ks)):=rfl;have hinv:=Jxw ok (J7n ok);rw [hgr];generalize Jqv ks=S at *
 (refine bgo Tryz.func163 ?_;simp only [go_sem,Nat.reduceLT,Nat.reduceLeDiff,Nat.reduceEqDiff,Nat.reduceMul,↓reduceIte,reduceCtorEq]);(repeat' (first | ((refine Jqa (hS) ?_);simp only [go_sem,Nat.reduceLT,Nat.reduceLeDiff,Nat.reduceEqDiff,Nat.reduceMul,↓reduceIte]) | fail));refine Jq0 (B1 [(7,40),(10,48)] _ sm) ?_;simp only [go_sem,Nat.reduceEqDiff,↓reduceIte];refine SWP.loop (fun i:Nat=>⟨Ba 57 [(0,.p (.sl (Jqm ks))),(3,.own 40 0 (Jrz ks (S.take i)).1.length),(4,.p (.sl (natL S))),(5,.own 48 0 (Jrz ks (S.take i)).2.length),(6,.p (.int .i64 i))],[(48,.row 3 1 (natL (Jrz ks (S.take i)).2)),(40,.row 135 1 (Jrv (Jrz ks (S.take i)).1))]⟩) (fun i=>i≤S.length) (fun i=>S.length - i) 0 (by rw [List.take_zero,J8d];exact Jqb) (Nat.zero_le _) ?_;rintro i hi;have hG:=hinv i hi;have hcl:=J8f hG;rw [List.length_take] at hcl;by_cases hlt:¬ i<S.length
 ·obtain rfl:i=S.length:=by omega
  rw [List.take_length] at hG hcl ⊢;have c1:((S.length:Int)<(S.length:Int))=False:=eq_false omg;generalize Jrz ks S=st at *
  obtain ⟨o,g⟩:=st;simp only at hcl ⊢;cases g with
  | nil =>
   have ht:(Jrv o).take o.length=Jrv (Jq6 (o,[])):=by rw [List.take_of_length_le sm];rfl
   have c2:((0:Int)<((0:Nat):Int))=False:=eq_false omg;(refine lws ?_;simp only [go_sem,Nat.reduceLT,Nat.reduceEqDiff,↓reduceIte,reduceCtorEq,Jst,c1,c2,ht,Jtr,Nat.le_refl])
   skip
  | cons a g =>
   have hgl:(a :: g).length=g.length+1:=rfl;have c2:((0:Int)<((g.length+1:Nat):Int))=True:=eq_true omg;have hap:Jrv o ++ [[.sl (natL (a :: g))]]=Jrv (Jq6 (o,a :: g)):=by rw [Jtt sm];exact (Jzz o [a :: g]).symm
   have hcn:(Jq6 (o,a :: g)).length=o.length+1:=by rw [Jtt sm,List.length_append];rfl
   have htg:(natL (a :: g)).take (g.length+1)=natL (a :: g):=List.take_of_length_le sm;have ht:(Jrv (Jq6 (o,a :: g))).take (o.length+1)=Jrv (Jq6 (o,a :: g)):=List.take_of_length_le (by simp [hcn]);have hrg:(g.length+1≤(natL (a :: g)).length)=True:=eq_true sm;have hel:=J7g (a :: g);generalize natL (a :: g)=rg at *
   (refine lws ?_;simp only [go_sem,Nat.reduceLT,Nat.reduceLeDiff,Nat.reduceEqDiff,Nat.reduceMul,↓reduceIte,reduceCtorEq,Jst,c1,c2,ht,htg,hrg,hap,hcn,Jtr,Nat.le_refl]);(repeat' (first | (refine And.intro (by first | (simp;done)|(simp at hcl ⊢;omega)) ?_) | fail))
   all_goals first | omega | (simp at hcl ⊢;omega)
 ·have hlt:=Decidable.not_not.1 hlt;have c1:((i:Int)<(S.length:Int))=True:=eq_true omg;obtain ⟨a,ha⟩:∃ a,S[i]? = some a:=⟨_,List.getElem?_eq_getElem hlt⟩
  have hga:=J0y ha;have hal:=hsm a (List.mem_of_getElem? ha);obtain ⟨t,ht⟩:∃ t,ks[a]? = some t:=⟨_,List.getElem?_eq_getElem hal⟩
  have hgt:=Jr4 ht;have okt:=ho t (List.mem_of_getElem? ht);have hstep:=J02 (ks:=ks) ha;have hmem:∀ x∈(Jrz ks (S.take i)).2,x<ks.length:=fun x hx=>by
   refine hsm x (List.mem_of_mem_take (i:=i) ?_);rw [← hG.flat];exact List.mem_append_right _ hx
  generalize Jrz ks (S.take i)=st at *
  obtain ⟨o,g⟩:=st;simp only at hcl hmem ⊢;have hap:∀ x,natL g ++ [[.int .i64 (x:Nat)]]=natL (g ++ [x]):=fun x=>(natL_app g [x]).symm
  have hgn:(g ++ [a]).length=g.length+1:=by simp
  have hsa:natL [a]=[[.int .i64 (a:Int)]]:=rfl;cases g with
  | nil =>
   have c2:((0:Int)<((0:Nat):Int))=False:=eq_false omg;have hst:Ju8 ks (o,[]) a=(o,[a]):=by unfold Ju8;rw [if_neg sm];rfl
   (refine lws ?_;simp only [go_sem,Nat.reduceLT,Nat.reduceEqDiff,↓reduceIte,reduceCtorEq,Jst,c1,wj1 (i:=i) omg]);(repeat' (first | (refine And.intro (by first | (simp;done)|(simp;omega)) ?_)|((refine Jqk ?_);simp only [go_sem,Nat.reduceLT,Nat.reduceLeDiff,Nat.reduceEqDiff,Nat.reduceMul,↓reduceIte,reduceCtorEq,Jst,c2,hga,wj1 (i:=i) omg]) | fail));exact ⟨i+1,by omega,by omega,by rw [hstep,hst,hsa];exact Jqb⟩
  | cons b g =>
   have hbl:=hmem b List.mem_cons_self;obtain ⟨u,hu⟩:∃ u,ks[b]? = some u:=⟨_,List.getElem?_eq_getElem hbl⟩
   have hgu:=Jr4 hu;have oku:=ho u (List.mem_of_getElem? hu);have hC:=Jx5 (t.enc []).length t u (Nat.le_refl _) okt.1 oku.1 okt.2 oku.2;have c2:((0:Int)<((g.length+1:Nat):Int))=True:=eq_true omg;have hg0:(natL (b :: g))[0]? = some [.int .i64 (b:Int)]:=rfl;have hgl:(b :: g).length=g.length+1:=rfl;have hln:(natL (b :: g)).length=g.length+1:=by simp
   by_cases hc:cmpT t u=0
   ·have c3:=eq_true hc;have hst:Ju8 ks (o,b :: g) a=(o,b :: g ++ [a]):=by
     unfold Ju8;rw [if_neg (fun h=>h.2 (by show cmpT (Jqz ks a) (Jqz ks b)=0;rw [Jre ht,Jre hu];exact hc))]
    have hap:=hap a;generalize natL (b :: g)=rg at *
    (refine lws ?_;simp only [go_sem,Nat.reduceLT,Nat.reduceEqDiff,↓reduceIte,reduceCtorEq,Jst,c1,wj1 (i:=i) omg,decide_true]);(repeat' (first | (refine And.intro (by first | (simp;done)|(simp;omega)) ?_)|(refine Jqe ?_)|((first | (refine Jqk ?_)|(refine Jqd (hC) ?_));simp only [go_sem,Nat.reduceLT,Nat.reduceLeDiff,Nat.reduceEqDiff,Nat.reduceMul,Int.reduceToNat,Int.reduceLE,↓reduceIte,reduceCtorEq,c2,c3,hga,hgt,hg0,hgu,hln,hap,wj1 (i:=i) omg,decide_true]) | fail));exact ⟨i+1,by omega,by omega,by rw [hstep,hst];exact Jqb⟩
   ·have c3:=eq_false hc;have hst:Ju8 ks (o,b :: g) a=(o ++ [b :: g],[a]):=by
     unfold Ju8;rw [if_pos ⟨by simp,by show ¬ cmpT (Jqz ks a) (Jqz ks b)=0;rw [Jre ht,Jre hu];exact hc⟩]
    have hrg:(g.length+1≤(natL (b :: g)).length)=True:=eq_true sm;have htg:(natL (b :: g)).take (g.length+1)=natL (b :: g):=List.take_of_length_le sm;have hago:Jrv o ++ [[.sl (natL (b :: g))]]=Jrv (o ++ [b :: g]):=(Jzz o [b :: g]).symm;have hel:=J7g (b :: g);have hol:(o ++ [b :: g]).length=o.length+1:=by simp
    generalize natL (b :: g)=rg at *
    (refine lws ?_;simp only [go_sem,Nat.reduceLT,Nat.reduceEqDiff,↓reduceIte,reduceCtorEq,Jst,c1,wj1 (i:=i) omg,decide_true]);(repeat' (first | (refine And.intro (by first | (simp;done)|(simp;omega)) ?_)|(refine Jqe ?_)|((first | (refine Jqk ?_)|(refine Jqd (hC) ?_));simp only [go_sem,Nat.reduceLT,Nat.reduceLeDiff,Nat.reduceEqDiff,Nat.reduceMul,Int.reduceToNat,Int.reduceLE,↓reduceIte,reduceCtorEq,c2,c3,hga,hgt,hg0,hgu,hln,htg,hago,Jtr,Nat.le_refl,wj1 (i:=i) omg,decide_true]) | fail));exact ⟨i+1,by omega,by omega,by rw [hstep,hst];simp only [hsa];exact Jqb⟩
def Jru (x:Step) (t:Tree):Except Nat Tree :=
 if t.kind=0 then .ok nilT else if x.part=true then (if t.kind=5 then .ok ((t.kids.list[x.n.toNat]?.map (·.2)).getD nilT) else .error 5) else if t.kind=6 then .ok ((Ch x.name t.kids.list).getD nilT) else .error 5
def Jro:List Step→Tree→Except Nat Tree
 | [],t=>.ok t
 | x :: p,t=>match Jru x t with
  | .ok u=>Jro p u
  | .error e=>.error e
theorem J01:valL (nilT.enc [])=[[.int .i64 0,.int .i64 0,.str [],.str [],.bool false,.int .i64 0]]:=by unfold nilT;rw [A6,Bl];rfl
theorem Jzp:(nilT.enc []).length=1:=by unfold nilT;rw [A6,Bl];rfl
def resV:Except Nat Tree→PV
 | .ok t=>.sl (valL (t.enc []))
 | .error _=>.snil
def resE:Except Nat Tree→Int
 | .ok _=>0
 | .error e=>e
theorem J7k (r:Except Nat Tree):getR r=.tup [resV r,.int .i64 (resE r)]:=by cases r <;> rfl
theorem Jw9:Det cx 113 [] [] (.p (.sl (valL (nilT.enc [])))) []:=by
 rw [J01];(refine bgo Tryz.func113 ?_;simp only [go_sem,simprocAttr])
 skip
theorem Jzq {x:Step} {t u:Tree} (h:Jru x t=.ok u):(u.enc []).length≤(t.enc []).length:=by
 have h1:=Et t [];have hn:(nilT.enc []).length≤(t.enc []).length:=by rw [Jzp];exact h1
 have hk:∀ p∈t.kids.list,(p.2.enc []).length≤(t.enc []).length:=by
  obtain ⟨k,s,g,e,kids⟩:=t;intro p hp;have:=Jd7 hp;rw [A6,List.length_cons];simp only [Tree.kids] at this;omega
 unfold Jru at h;split at h
 ·cases h;exact hn
 ·split at h
  ·split at h
   ·cases h;cases hq:t.kids.list[x.n.toNat]? with
    | none=>exact hn
    | some p=>exact hk p (List.mem_of_getElem? hq)
   ·cases h
  ·split at h
   ·cases h;cases hq:Ch x.name t.kids.list with
    | none=>exact hn
    | some w =>
     obtain ⟨p,hp,rfl,_⟩:=H2 hq;exact hk p hp
   ·cases h
theorem Jx1 {x:Step} {t:Tree} {er:Nat} (h:Jru x t=.error er):er=5:=by
 unfold Jru at h
 repeat' split at h
 all_goals first
  | (cases h;rfl)
  | cases h
theorem J2m:∀ {p:List Step} {t u:Tree},Jro p t=.ok u→(u.enc []).length≤(t.enc []).length
 | [],t,u,h=>by rw [Jro] at h;cases h;exact Nat.le_refl _
 | x :: p,t,u,h=>by
  rw [Jro] at h;cases hs:Jru x t with
  | ok w=>rw [hs] at h;exact Nat.le_trans (J2m h) (Jzq hs)
  | error e=>rw [hs] at h;cases h
theorem Jwe:∀ {p:List Step} {t:Tree} {er:Nat},Jro p t=.error er→er=5
 | [],t,er,h=>by rw [Jro] at h;cases h
 | x :: p,t,er,h=>by
  rw [Jro] at h;cases hs:Jru x t with
  | ok w=>rw [hs] at h;exact Jwe h
  | error e=>rw [hs] at h;cases h;exact Jx1 hs
theorem J3u {nm:List UInt8} {n:Int} {s:List UInt8} {g:Bool} {e:Int} {kids:Forest} {b:Bool}:Jru ⟨b,nm,n⟩ (.mk 0 s g e kids)=.ok nilT:=by unfold Jru;exact if_pos rfl
theorem J4i {nm:List UInt8} {n:Int} {s:List UInt8} {g:Bool} {e:Int} {kids:Forest}:Jru ⟨false,nm,n⟩ (.mk 6 s g e kids)=.ok ((Ch nm kids.list).getD nilT):=by unfold Jru;simp [Tree.kind,Tree.kids]
theorem J9v {nm:List UInt8} {n:Int} {k:Int} {s:List UInt8} {g:Bool} {e:Int} {kids:Forest} (h0:¬ k=0) (h6:¬ k=6):Jru ⟨false,nm,n⟩ (.mk k s g e kids)=.error 5:=by unfold Jru;simp [Tree.kind,h0,h6]
theorem J4l {nm:List UInt8} {n:Int} {s:List UInt8} {g:Bool} {e:Int} {kids:Forest}:Jru ⟨true,nm,n⟩ (.mk 5 s g e kids)=.ok ((kids.list[n.toNat]?.map (·.2)).getD nilT):=by unfold Jru;simp [Tree.kind,Tree.kids]
theorem stepE_pn {nm:List UInt8} {n:Int} {k:Int} {s:List UInt8} {g:Bool} {e:Int} {kids:Forest} (h0:¬ k=0) (h6:¬ k=5):Jru ⟨true,nm,n⟩ (.mk k s g e kids)=.error 5:=by unfold Jru;simp [Tree.kind,h0,h6]
theorem J79 (t:Tree) (name:List UInt8) (n:Int) (hv:(t.enc []).length≤1000000):Det cx 74 [.p (.str name),.p (.sl (valL (t.enc [])))] [] (getR (Jru ⟨false,name,n⟩ t)) []:=by
 cases t with
 | mk k s g e kids =>
 have hkv:kids.enc.length≤999999:=by rw [A6] at hv;simp at hv;omega
 by_cases h0:k=0
 ·subst h0;rw [J3u,getR];(refine bgo Tryz.func74 ?_;simp only [go_sem,simprocAttr,Cc]);(repeat' (first | ((refine Jqa (Jw9) ?_);simp only [go_sem,simprocAttr]) | fail))
 ·by_cases h6:k=6
  ·subst h6;rw [J4i];have hF:=Re [] s g e kids name hkv;cases hf:Ch name kids.list with
   | none =>
    rw [hf] at hF;unfold Oo at hF;rw [Option.getD_none,getR];(refine bgo Tryz.func74 ?_;simp only [go_sem,simprocAttr,Cc]);(repeat' (first | ((first | (refine Jqa (Jw9) ?_)|(refine Jqa (hF) ?_));simp only [go_sem,simprocAttr]) | fail))
   | some t =>
    rw [hf] at hF;unfold Oo at hF;rw [Option.getD_some,getR];(refine bgo Tryz.func74 ?_;simp only [go_sem,simprocAttr,Cc]);(repeat' (first | ((refine Jqa (hF) ?_);simp only [go_sem,simprocAttr]) | fail))
  ·rw [J9v h0 h6,getR];have c0:=eq_false h0;have c6:=eq_false h6;(refine bgo Tryz.func74 ?_;simp only [go_sem,simprocAttr,Cc,c0,c6])
   all_goals rfl
theorem d_part10 (t:Tree) (name:List UInt8) (n:Int) (hn:0≤n) (hv:(t.enc []).length≤1000000):Det cx 75 [.p (.int .i64 n),.p (.sl (valL (t.enc [])))] [] (getR (Jru ⟨true,name,n⟩ t)) []:=by
 cases t with
 | mk k s g e kids =>
 have hkv:kids.enc.length≤999999:=by rw [A6] at hv;simp at hv;omega
 have hll:=Jqh kids;have hkl:=Jqf kids;obtain ⟨m,rfl⟩:∃ m:Nat,n=m:=⟨n.toNat,by omega⟩
 by_cases h0:k=0
 ·subst h0;rw [J3u,getR];(refine bgo Tryz.func75 ?_;simp only [go_sem,simprocAttr,Cc]);(repeat' (first | ((refine Jqa (Jw9) ?_);simp only [go_sem,simprocAttr]) | fail))
 ·by_cases h5:k=5
  ·subst h5;rw [J4l];have hP:=Dy [] 5 s g e kids hkv;rw [show (m:Int).toNat=m from rfl];by_cases hlt:m<kids.len
   ·obtain ⟨p,hpk⟩:∃ p,kids.list[m]? = some p:=⟨_,List.getElem?_eq_getElem omg⟩
    have hpg:=Hx hpk;have c1:((kids.len:Int)≤(m:Int))=False:=eq_false omg;rw [hpk,Option.map_some,Option.getD_some,getR];(refine bgo Tryz.func75 ?_;simp only [go_sem,simprocAttr,Cc]);(repeat' (first | ((refine Jqa (hP) ?_);simp only [go_sem,simprocAttr,hpg,c1,A5,hkl]) | fail))
   ·rw [List.getElem?_eq_none omg,Option.map_none,Option.getD_none,getR];have c1:((kids.len:Int)≤(m:Int))=True:=eq_true omg;(refine bgo Tryz.func75 ?_;simp only [go_sem,simprocAttr,Cc]);(repeat' (first | ((first | (refine Jqa (hP) ?_)|(refine Jqa (Jw9) ?_));simp only [go_sem,simprocAttr,c1,A5,hkl]) | fail))
  ·rw [stepE_pn h0 h5,getR];have c0:=eq_false h0;have c6:=eq_false h5;(refine bgo Tryz.func75 ?_;simp only [go_sem,simprocAttr,Cc,c0,c6])
   all_goals rfl
theorem Jwi:∀ (p:List Step) (t:Tree),p.length≤1000000→(∀ x∈p,Bc x)→(t.enc []).length≤1000000→Det cx 37 [.p (.sl (Bb p)),.p (.sl (valL (t.enc [])))] [] (getR (Jro p t)) []
 | [],t,_,_,hv=>by
  rw [Jro,getR];(refine bgo Tryz.func37 ?_;simp only [go_sem,simprocAttr,Aq])
  skip
 | x :: p,t,hp,hok,hv=>by
  have hgx:(Bb (x :: p))[0]? = some [.bool x.part,.str x.name,.int .i64 x.n]:=rfl;have hel3:∀ q∈Bb (x :: p),q.length=3:=by
   intro q hq;obtain ⟨y,_,rfl⟩:=List.mem_map.1 hq;rfl
  have hdx:(Bb (x :: p)).drop 1=Bb p:=rfl;have hl1:(x :: p).length=p.length+1:=rfl;have htk:(Bb p).take p.length=Bb p:=List.take_of_length_le (by rw [Aq];exact Nat.le_refl _);have hlp:p.length≤1000000:=by rw [hl1] at hp;omega
  have hox:∀ y∈p,Bc y:=fun y hy=>hok y (List.mem_cons_of_mem _ hy)
  have hxx:=hok x List.mem_cons_self;rw [Jro];obtain ⟨b,nm,n⟩:=x;have hF:=J79 t nm 0 hv;cases b with
  | false =>
   have hn0:n=0:=hxx.1;subst hn0;cases hs:Jru ⟨false,nm,0⟩ t with
   | ok u =>
    rw [hs,getR] at hF;have hR:=Jwi p u hlp hox (Nat.le_trans (Jzq hs) hv);rw [J7k] at hR ⊢;(refine bgo Tryz.func37 ?_;simp only [go_sem,simprocAttr,Aq,hgx,hl1]);(repeat' (first | (refine And.intro hel3 ?_)|(apply iteI <;> intro h)|(refine Jqe ?_)|((first | (refine Jqa (hF) ?_)|(refine Jqa (hR) ?_));simp only [go_sem,simprocAttr,Aq,hgx,hdx,hl1])|(exfalso;omega)))
   | error er =>
    rw [hs,getR] at hF;have h5:=Jx1 hs;subst h5;rw [getR];(refine bgo Tryz.func37 ?_;simp only [go_sem,simprocAttr,Aq,hgx,hl1]);(repeat' (first | (apply iteI <;> intro h)|((refine Jqa (hF) ?_);simp only [go_sem,simprocAttr,hgx])|(exfalso;omega)))
  | true =>
   have hn0:0≤n:=hxx.2.1;have hP:=d_part10 t nm n hn0 hv;cases hs:Jru ⟨true,nm,n⟩ t with
   | ok u =>
    rw [hs,getR] at hP;have hR:=Jwi p u hlp hox (Nat.le_trans (Jzq hs) hv);rw [J7k] at hR ⊢;cases hs2:Jru ⟨false,nm,0⟩ t with
    | ok w =>
     rw [hs2,getR] at hF;(refine bgo Tryz.func37 ?_;simp only [go_sem,simprocAttr,Aq,hgx,hl1]);(repeat' (first | (refine And.intro hel3 ?_)|(apply iteI <;> intro h)|(refine Jqe ?_)|((first | (refine Jqa (hF) ?_)|(refine Jqa (hP) ?_)|(refine Jqa (hR) ?_));simp only [go_sem,simprocAttr,Aq,hgx,hdx,hl1])|(exfalso;omega)))
    | error er =>
     rw [hs2,getR] at hF;(refine bgo Tryz.func37 ?_;simp only [go_sem,simprocAttr,Aq,hgx,hl1]);(repeat' (first | (refine And.intro hel3 ?_)|(apply iteI <;> intro h)|(refine Jqe ?_)|((first | (refine Jqa (hF) ?_)|(refine Jqa (hP) ?_)|(refine Jqa (hR) ?_));simp only [go_sem,simprocAttr,Aq,hgx,hdx,hl1])|(exfalso;omega)))
   | error er =>
    rw [hs,getR] at hP;have h5:=Jx1 hs;subst h5;rw [getR];cases hs2:Jru ⟨false,nm,0⟩ t with
    | ok w =>
     rw [hs2,getR] at hF;(refine bgo Tryz.func37 ?_;simp only [go_sem,simprocAttr,Aq,hgx,hl1]);(repeat' (first | (apply iteI <;> intro h)|((first | (refine Jqa (hF) ?_)|(refine Jqa (hP) ?_));simp only [go_sem,simprocAttr,hgx])|(exfalso;omega)))
    | error er =>
     rw [hs2,getR] at hF;(refine bgo Tryz.func37 ?_;simp only [go_sem,simprocAttr,Aq,hgx,hl1]);(repeat' (first | (apply iteI <;> intro h)|((first | (refine Jqa (hF) ?_)|(refine Jqa (hP) ?_));simp only [go_sem,simprocAttr,hgx])|(exfalso;omega)))
theorem d_path10 (s:List UInt8) (hs:s.length≤1000000):Det cx 84 [.p (.str s)] [] (.p (.sl (Bb (Je s).1))) []:=by
 have hR:=J2l s hs;(refine bgo Tryz.func84 ?_;simp only [go_sem,simprocAttr]);(repeat' (first | ((refine Jqa (hR) ?_);simp only [go_sem,simprocAttr]) | fail))
end Go.LX
