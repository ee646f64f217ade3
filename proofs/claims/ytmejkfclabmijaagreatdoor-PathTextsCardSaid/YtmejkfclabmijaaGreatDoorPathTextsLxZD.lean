/- Names in order: plain facts. -/
import Derived.Test.YtmejkfclabmijaaGreatDoorPathTextsLxH
import Derived.Test.YtmejkfclabmijaaGreatDoorPathTextsLxZC
set_option linter.unusedSimpArgs false
set_option linter.unusedVariables false
set_option linter.unusedSectionVars false
set_option linter.unnecessarySimpa false
namespace Go.LX
open Go
theorem O6:∀ a:List UInt8,Op.bytesLess a a=false
 | []=>rfl
 | x :: a=>by simp [Op.bytesLess,O6 a]
theorem Vn:∀ {a b c:List UInt8},Op.bytesLess a b=true→Op.bytesLess b c=true→Op.bytesLess a c=true
 | _,[],_,h,_=>by simp [Op.bytesLess] at h
 | _,_ :: _,[],_,h=>by simp [Op.bytesLess] at h
 | [],_ :: _,_ :: _,_,_=>rfl
 | x :: a,y :: b,z :: c,h1,h2=>by
  simp only [Op.bytesLess,Bool.or_eq_true,decide_eq_true_eq,Bool.and_eq_true,beq_iff_eq] at h1 h2 ⊢
  rcases h1 with h1 | ⟨rfl,h1⟩
  ·rcases h2 with h2 | ⟨rfl,h2⟩
   ·exact .inl (UInt8.lt_trans h1 h2)
   ·exact .inl h1
  ·rcases h2 with h2 | ⟨rfl,h2⟩
   ·exact .inl h2
   ·exact .inr ⟨rfl,Vn h1 h2⟩
theorem Yn {a b:List UInt8} (h:Op.bytesLess a b=true):Op.bytesLess b a=false:=by
 cases h':Op.bytesLess b a with
 | false=>rfl
 | true=>have:=Vn h h';rw [O6] at this;cases this
theorem bl_ne {a b:List UInt8} (h:Op.bytesLess a b=true):a≠b:=by
 rintro rfl;rw [O6] at h;cases h
theorem Jcm:∀ {a b:List UInt8},Op.bytesLess a b=false→a≠b→Op.bytesLess b a=true
 | [],[],_,h=>absurd rfl h
 | [],_ :: _,h,_=>by simp [Op.bytesLess] at h
 | _ :: _,[],_,_=>rfl
 | x :: a,y :: b,h1,h2=>by
  simp only [Op.bytesLess,Bool.or_eq_false_iff,decide_eq_false_iff_not,Bool.and_eq_false_imp,beq_iff_eq] at h1
  simp only [Op.bytesLess,Bool.or_eq_true,decide_eq_true_eq,Bool.and_eq_true,beq_iff_eq]
  obtain ⟨h3,h4⟩:=h1
  by_cases hxy:x=y
  ·subst hxy
   exact .inr ⟨rfl,Jcm (h4 rfl) (by rintro rfl;exact h2 rfl)⟩
  ·left
   rcases UInt8.lt_or_lt_of_ne hxy with h | h
   ·exact absurd h h3
   ·exact h
def nle (a b:List UInt8):Prop:=Op.bytesLess b a=false
theorem Jqy {a b c:List UInt8} (h1:nle a b) (h2:nle b c):nle a c:=by
 unfold nle at *
 cases h:Op.bytesLess c a with
 | false=>rfl
 | true =>
  by_cases e:b=c
  ·subst e;rw [h1] at h;cases h
  ·have h3:=Jcm h2 (Ne.symm e)
   have:=Vn h3 h
   rw [h1] at this;cases this
abbrev KT:=List UInt8×Tree
def Rise (l:List KT):Prop:=l.Pairwise fun a b=>Op.bytesLess a.1 b.1=true
theorem Rise.nodup {l:List KT} (h:Rise l):(l.map (·.1)).Nodup:=by
 unfold List.Nodup
 rw [List.pairwise_map]
 exact List.Pairwise.imp (fun h=>bl_ne h) h
def putL (name:List UInt8) (t:Tree):List KT→List KT
 | []=>[(name,t)]
 | p :: l=>if Op.bytesLess p.1 name=true then p :: putL name t l else (name,t) :: p :: l
theorem Tj (name:List UInt8) (t:Tree):∀ l,(putL name t l).Perm ((name,t) :: l)
 | []=>.refl _
 | p :: l=>by
  unfold putL
  split
  ·exact ((Tj name t l).cons p).trans (.swap _ _ _)
  ·exact .refl _
theorem Js2 {name:List UInt8} {t:Tree} {l:List KT} {q:KT}:q∈putL name t l ↔ q=(name,t)∨q∈l:=by
 rw [(Tj name t l).mem_iff,List.mem_cons]
theorem Ye (name:List UInt8) (t:Tree) (l:List KT):(putL name t l).length=l.length+1:=by
 rw [(Tj name t l).length_eq];rfl
theorem Wb {name:List UInt8} {t:Tree}:∀ {l:List KT},Rise l→(∀ p∈l,p.1≠name)→Rise (putL name t l)
 | [],_,_=>List.pairwise_singleton _ _
 | p :: l,h,hn=>by
  unfold putL
  obtain ⟨h1,h2⟩:=List.pairwise_cons.1 h
  split
  ·rename_i hlt
   refine List.pairwise_cons.2 ⟨fun q hq=>?_,Wb h2 fun q hq=>hn q (List.mem_cons_of_mem _ hq)⟩
   rcases Js2.1 hq with rfl | hq
   ·exact hlt
   ·exact h1 q hq
  ·rename_i hlt
   have h3:=Jcm (a:=p.1) (b:=name) (by simpa using hlt) (hn p List.mem_cons_self)
   refine List.pairwise_cons.2 ⟨fun q hq=>?_,h⟩
   rcases List.mem_cons.1 hq with rfl | hq
   ·exact h3
   ·exact Vn h3 (h1 q hq)
theorem U0:∀ {a b:List KT},Rise a→Rise b→a.Perm b→a=b
 | [],b,_,_,h=>(List.nil_perm.1 h).symm
 | p :: a,[],_,_,h=>by simp at h
 | p :: a,q :: b,h1,h2,h=>by
  obtain ⟨g1,g2⟩:=List.pairwise_cons.1 h1
  obtain ⟨k1,k2⟩:=List.pairwise_cons.1 h2
  have e:p=q:=by
   have m1:p∈q :: b:=h.mem_iff.1 List.mem_cons_self
   have m2:q∈p :: a:=h.mem_iff.2 List.mem_cons_self
   rcases List.mem_cons.1 m1 with e | m1
   ·exact e
   ·rcases List.mem_cons.1 m2 with e | m2
    ·exact e.symm
    ·have:=Yn (g1 q m2);rw [k1 p m1] at this;cases this
  subst e
  rw [U0 g2 k2 (List.Perm.cons_inv h)]
def Xv:List KT→List KT
 | []=>[]
 | p :: l=>putL p.1 p.2 (Xv l)
theorem Oz:∀ l,(Xv l).Perm l
 | []=>.refl _
 | p :: l=>(Tj _ _ _).trans ((Oz l).cons p)
theorem Vh:∀ {l:List KT},(l.map (·.1)).Nodup→Rise (Xv l)
 | [],_=>.nil
 | p :: l,h=>by
  rw [List.map_cons,List.nodup_cons] at h
  refine Wb (Vh h.2) fun q hq e=>h.1 ?_
  rw [← e]
  exact List.mem_map_of_mem ((Oz l).mem_iff.1 hq)
theorem Jml {l:List KT} {name:List UInt8} {t:Tree} (h:Rise l) (hn:∀ p∈l,p.1≠name):Xv (l ++ [(name,t)])=putL name t l:=by
 refine U0 (Vh ?_) (Wb h hn) ((Oz _).trans ?_)
 ·rw [List.map_append,List.nodup_append]
  refine ⟨h.nodup,by simp,fun a ha b hb=>?_⟩
  obtain ⟨p,hp,rfl⟩:=List.mem_map.1 ha
  simp at hb;subst hb
  exact hn p hp
 ·exact (List.perm_append_comm (l₁:=l) (l₂:=[(name,t)])).trans (Tj name t l).symm
def O3:List Bool→List KT→List KT
 | b :: D,p :: l=>if b=true then O3 D l else p :: O3 D l
 | _,_=>[]
def cntT:List Bool→Nat
 | []=>0
 | b :: D=>if b=true then cntT D+1 else cntT D
theorem Jo1:∀ D,cntT D≤D.length
 | []=>Nat.le_refl _
 | b :: D=>by have:=Jo1 D;simp only [cntT,List.length_cons];split <;> omega
theorem Jka:∀ {D:List Bool} {b:Nat},D[b]? = some false→cntT (D.set b true)=cntT D+1
 | [],b,h=>by simp at h
 | x :: D,0,h=>by simp at h;subst h;simp [cntT]
 | x :: D,b+1,h=>by
  simp only [List.set_cons_succ,cntT,Jka (D:=D) (b:=b) (by simpa using h)]
  split <;> rfl
theorem Jkl:∀ {D:List Bool},(∀ j,j<D.length→D[j]? = some true)→cntT D=D.length
 | [],_=>rfl
 | x :: D,h=>by
  have h0:=h 0 (by simp)
  simp at h0;subst h0
  simp only [cntT,if_true,List.length_cons]
  rw [Jkl fun j hj=>by simpa using h (j+1) (by simp;omega)]
theorem Jde:∀ {D:List Bool} {l:List KT},cntT D=D.length→O3 D l=[]
 | [],_,_=>rfl
 | x :: D,[],_=>rfl
 | x :: D,p :: l,h=>by
  have:=Jo1 D
  cases x
  ·simp [cntT] at h;omega
  ·simp [cntT] at h
   simp only [O3,if_true]
   exact Jde h
theorem Je4:∀ l:List KT,O3 (List.replicate l.length false) l=l
 | []=>rfl
 | p :: l=>by simp only [List.length_cons,List.replicate_succ,O3,Bool.false_eq_true,if_false,Je4 l]
theorem Jha:∀ n,cntT (List.replicate n false)=0
 | 0=>rfl
 | n+1=>by simp [List.replicate_succ,cntT,Jha n]
theorem Z9:∀ {D:List Bool} {l:List KT} {p:KT},p∈O3 D l→∃ j:Nat,l[j]? = some p∧D[j]? = some false
 | [],_,p,h=>by simp [O3] at h
 | x :: D,[],p,h=>by simp [O3] at h
 | x :: D,q :: l,p,h=>by
  unfold O3 at h
  split at h
  ·obtain ⟨j,h1,h2⟩:=Z9 h
   exact ⟨j+1,by simpa using h1,by simpa using h2⟩
  ·rename_i hx
   rcases List.mem_cons.1 h with rfl | h
   ·exact ⟨0,rfl,by simpa using hx⟩
   ·obtain ⟨j,h1,h2⟩:=Z9 h
    exact ⟨j+1,by simpa using h1,by simpa using h2⟩
theorem Jaj:∀ {D:List Bool} {l:List KT} {p:KT} {j:Nat},l[j]? = some p→D[j]? = some false→p∈O3 D l
 | [],_,_,_,_,h=>by simp at h
 | _ :: _,[],_,_,h,_=>by simp at h
 | x :: D,q :: l,p,0,h,h'=>by
  simp at h h';subst h;subst h'
  simp [O3]
 | x :: D,q :: l,p,j+1,h,h'=>by
  have:=Jaj (D:=D) (l:=l) (j:=j) (by simpa using h) (by simpa using h')
  unfold O3
  split
  ·exact this
  ·exact List.mem_cons_of_mem _ this
theorem Jcx:∀ {D:List Bool} {l:List KT} {p:KT} {j:Nat},l[j]? = some p→D[j]? = some false→(O3 D l).Perm (p :: O3 (D.set j true) l)
 | [],_,_,_,_,h=>by simp at h
 | _ :: _,[],_,_,h,_=>by simp at h
 | x :: D,q :: l,p,0,h,h'=>by
  simp at h h';subst h;subst h'
  simp [O3]
 | x :: D,q :: l,p,j+1,h,h'=>by
  have:=Jcx (D:=D) (l:=l) (j:=j) (by simpa using h) (by simpa using h')
  simp only [List.set_cons_succ,O3]
  split
  ·exact this
  ·exact (this.cons q).trans (.swap _ _ _)
structure Picks (l S:List KT) (D:List Bool):Prop where
 len:D.length=l.length
 cnt:cntT D=S.length
 perm:(S ++ O3 D l).Perm l
 rise:Rise S
 low:∀ s∈S,∀ p∈O3 D l,nle s.1 p.1
theorem Picks.start (l:List KT):Picks l [] (List.replicate l.length false) :=
 ⟨by simp,Jha _,by rw [List.nil_append,Je4],.nil,by simp⟩
theorem Picks.done {l S:List KT} {D:List Bool} (h:Picks l S D) (hn:S.length=l.length):S.Perm l:=by
 have:=h.perm
 rw [Jde (by rw [h.cnt,hn,h.len]),List.append_nil] at this
 exact this
theorem Picks.next {l S:List KT} {D:List Bool} (h:Picks l S D) {b:Nat} {p:KT} (hp:l[b]? = some p) (hb:D[b]? = some false) (hm:∀ (j:Nat) (q:KT),l[j]? = some q→D[j]? = some false→nle p.1 q.1) (hl:∀ q,S.getLast? = some q→q.1≠p.1):Picks l (S ++ [p]) (D.set b true):=by
 have hpr:=Jaj hp hb
 have ht:=Jcx hp hb
 refine ⟨by simp [h.len],by rw [Jka hb,h.cnt];simp,?_,?_,?_⟩
 ·rw [List.append_assoc]
  exact ((List.Perm.append_left S ht.symm)).trans h.perm
 ·refine List.pairwise_append.2 ⟨h.rise,List.pairwise_singleton _ _,fun s hs q hq=>?_⟩
  rw [List.mem_singleton] at hq;subst hq
  have h1:=h.low s hs q hpr
  by_cases e:s.1=q.1
  ·exfalso
   obtain ⟨S',z,rfl⟩:∃ S' z,S=S' ++ [z]:=by
    rcases List.eq_nil_or_concat S with rfl | ⟨S',z,rfl⟩
    ·cases hs
    ·exact ⟨S',z,by simp⟩
   have hz:=hl z (by simp)
   have h2:=h.low z (by simp) q hpr
   have h3:=Jcm (a:=q.1) (b:=z.1) h2 (Ne.symm hz)
   rcases List.mem_append.1 hs with hs | hs
   ·have h4:=(List.pairwise_append.1 h.rise).2.2 s hs z (by simp)
    rw [e] at h4
    have:=Yn h4;rw [h3] at this;cases this
   ·rw [List.mem_singleton] at hs;subst hs;exact hz e
  ·exact Jcm (a:=q.1) (b:=s.1) h1 (Ne.symm e)
 ·intro s hs q hq
  have hq':q∈O3 D l:=ht.mem_iff.2 (List.mem_cons_of_mem _ hq)
  rcases List.mem_append.1 hs with hs | hs
  ·exact h.low s hs q hq'
  ·rw [List.mem_singleton] at hs;subst hs
   obtain ⟨j,h1,h2⟩:=Z9 hq'
   exact hm j q h1 h2
theorem Picks.twice {l S:List KT} {D:List Bool} (h:Picks l S D) {b:Nat} {p q:KT} (hp:l[b]? = some p) (hb:D[b]? = some false) (hl:S.getLast? = some q) (he:q.1=p.1):¬ (l.map (·.1)).Nodup:=by
 intro hn
 have h1:=(h.perm.map (·.1)).nodup_iff.2 hn
 rw [List.map_append,List.nodup_append] at h1
 exact h1.2.2 q.1 (List.mem_map_of_mem (List.mem_of_getLast? hl)) p.1 (List.mem_map_of_mem (Jaj hp hb)) he
end Go.LX
set_option maxRecDepth 100000
set_option maxHeartbeats 2000000
namespace Go.LX
open Go Go.RowKit Go.Proofs
attribute [local irreducible] B2 SWP Hb
theorem Jcu (es:List (List PV)) (n i:Nat) (x:List UInt8) (h:es.length=n) (hi:i≤n) (hn:n≤1000000) (h1:∀ q∈es,q.length=1):Det cx 127 [.own 1000 0 n,.p (.int .i64 i),.own 1001 0 1] [(1001,.row 9 1 [[.str x]]),(1000,.row 9 1 es)] (.own 900 0 (n+1)) [(900,.row 9 1 (es.take i ++ [[.str x]] ++ es.drop i)),(1001,.row 9 1 [[.str x]])]:=by
 by_cases h2:i<n
 ·exact Jjn es n i x h h2 hn h1
 ·obtain rfl:i=n:=by omega
  have:=Je1 es i x h hn
  rw [List.take_of_length_le (by omega),List.drop_eq_nil_of_le (by omega),List.append_nil]
  exact this
theorem Jfm (es:List (List PV)) (n i:Nat) (x:PV) (hx:x.scalar=true) (h:es.length=n) (hi:i≤n) (hn:n≤1000000) (h1:∀ q∈es,q.length=1):Det cx 128 [.own 1000 0 n,.p (.int .i64 i),.own 1001 0 1] [(1001,.row 34 1 [[x]]),(1000,.row 34 1 es)] (.own 900 0 (n+1)) [(900,.row 34 1 (es.take i ++ [[x]] ++ es.drop i)),(1001,.row 34 1 [[x]])]:=by
 by_cases h2:i<n
 ·exact Jm9 es n i x hx h h2 hn h1
 ·obtain rfl:i=n:=by omega
  have:=Jfq es i x hx h hn
  rw [List.take_of_length_le (by omega),List.drop_eq_nil_of_le (by omega),List.append_nil]
  exact this
theorem Jh9 (name:List UInt8) (t:Tree):∀ l:List KT,putL name t l=l.take (K8 name (l.map (·.1))) ++ [(name,t)] ++ l.drop (K8 name (l.map (·.1)))
 | []=>rfl
 | p :: l=>by
  simp only [putL,List.map_cons,K8]
  split
  ·rw [Jh9 name t l];rfl
  ·rfl
theorem Ji2 {name:List UInt8} {l:List KT} (h:Rise l):Mono name (l.map (·.1)):=by
 intro i j s t hij hi hj hlt
 rw [List.getElem?_map] at hi hj
 obtain ⟨p,hp,rfl⟩:=Option.map_eq_some_iff.1 hi
 obtain ⟨q,hq,rfl⟩:=Option.map_eq_some_iff.1 hj
 rcases Nat.lt_or_eq_of_le hij with h2 | rfl
 ·obtain ⟨hp1,rfl⟩:=List.getElem?_eq_some_iff.1 hp
  obtain ⟨hq1,rfl⟩:=List.getElem?_eq_some_iff.1 hq
  exact Vn (List.pairwise_iff_getElem.1 h i j hp1 hq1 h2) hlt
 ·rw [hp] at hq;cases hq;exact hlt
theorem Jnu (l:List KT):Gd l=strL (l.map (·.1)):=by simp [Gd,strL]
theorem Jai {name:List UInt8}:∀ {l:List KT} {p:KT},p∈Fg name l ↔ p∈l∧p.1≠name
 | [],p=>by simp [Fg]
 | q :: l,p=>by
  simp only [Fg]
  split
  ·rename_i h
   rw [Jai]
   constructor
   ·exact fun ⟨h1,h2⟩=>⟨List.mem_cons_of_mem _ h1,h2⟩
   ·rintro ⟨h1,h2⟩
    rcases List.mem_cons.1 h1 with rfl | h1
    ·exact absurd h h2
    ·exact ⟨h1,h2⟩
  ·rename_i h
   rw [List.mem_cons,Jai,List.mem_cons]
   constructor
   ·rintro (rfl | ⟨h1,h2⟩)
    ·exact ⟨.inl rfl,h⟩
    ·exact ⟨.inr h1,h2⟩
   ·rintro ⟨rfl | h1,h2⟩
    ·exact .inl rfl
    ·exact .inr ⟨h1,h2⟩
theorem Jas (name:List UInt8):∀ l:List KT,(Fg name l).Sublist l
 | []=>.slnil
 | p :: l=>by
  simp only [Fg]
  split
  ·exact (Jas name l).cons _
  ·exact (Jas name l).cons_cons _
theorem Rise.kept {l:List KT} (h:Rise l) (name:List UInt8):Rise (Fg name l):=List.Pairwise.sublist (Jas name l) h
theorem T8 (name:List UInt8) (t:Tree):∀ l:List KT,(Ej (putL name t l)).enc.length=(Ej l).enc.length+(t.enc []).length
 | []=>by simp only [putL,Ej,E9,J1,List.length_append,List.length_nil,R8 t name];omega
 | p :: l=>by
  unfold putL
  split
  ·simp only [Ej,E9,List.length_append,T8 name t l];omega
  ·simp only [Ej,E9,List.length_append,R8 t name];omega
theorem d_With (nm:List UInt8) (s:List UInt8) (g:Bool) (e:Int) (kids:Forest) (name:List UInt8) (t:Tree) (hv:kids.enc.length≤400000) (ht:(t.enc []).length≤400000) (hr:Rise (Fg name kids.list)):Det cx 61 [.p (.sl (valL ((Tree.mk 6 s g e kids).enc nm))),.p (.str name),.p (.sl (valL (t.enc [])))] [] (.p (.sl (valL ((Tree.mk 6 [] false 0 (Ej (putL name t (Fg name kids.list)))).enc [])))) []:=by
 have hw:=Jqd nm s g e kids name (by omega)
 have hkl:=Oh name kids
 have hfl:=Forest.len_le (Ej (Fg name kids.list))
 rw [Kk] at hfl
 generalize hK:Fg name kids.list=K at *
 have hp:=Jpg [] 6 [] false 0 (Ej K) (by omega)
 have hnm:=o_Names [] [] false 0 (Ej K) (by omega)
 rw [Sc,Kk] at hp hnm
 have hb:=d_Binary name (K.map (·.1)) (Ji2 hr) (by simp;omega)
 rw [← Jnu,List.length_map] at hb
 have hbl:=Jd3 name (K.map (·.1))
 rw [List.length_map] at hbl
 have i1:=Jcu (Gd K) K.length (K8 name (K.map (·.1))) name (Gc K) hbl (by omega) (by intro q hq;obtain ⟨p,_,rfl⟩:=List.mem_map.1 hq;rfl)
 have i2:=Jfm (E3 K) K.length (K8 name (K.map (·.1))) (.sl (valL (t.enc []))) rfl (Fo K) hbl (by omega) (by intro q hq;obtain ⟨p,_,rfl⟩:=List.mem_map.1 hq;rfl)
 have e1:(Gd K).take (K8 name (K.map (·.1))) ++ [[PV.str name]] ++ (Gd K).drop (K8 name (K.map (·.1)))=Gd (putL name t K):=by
  rw [Jh9];simp [Gd,List.map_take,List.map_drop]
 have e2:(E3 K).take (K8 name (K.map (·.1))) ++ [[PV.sl (valL (t.enc []))]] ++ (E3 K).drop (K8 name (K.map (·.1)))=E3 (putL name t K):=by
  rw [Jh9];simp [E3,List.map_take,List.map_drop]
 rw [e1] at i1
 rw [e2] at i2
 have hla:=Js7 (putL name t K) (by rw [T8];omega)
 have l1:(K.length+1≤(Gd (putL name t K)).length)=True:=eq_true (by rw [Gc,Ye];omega)
 have l2:(K.length+1≤(E3 (putL name t K)).length)=True:=eq_true (by rw [Fo,Ye];omega)
 have t1:(Gd (putL name t K)).take (K.length+1)=Gd (putL name t K):=List.take_of_length_le (by rw [Gc,Ye];omega)
 have t2:(E3 (putL name t K)).take (K.length+1)=E3 (putL name t K):=List.take_of_length_le (by rw [Fo,Ye];omega)
 skip
 (refine B2.of_code (X:=cx) false [] (by simp) Tryz.func61 (by kernel_rfl) rfl (by simp only [List.length_cons,List.length_nil,Tryz.ntmps61];decide) (by simp) ?_;refine Ax hm _ _ _ ?_;simp only [Tryz.ntmps61,Tryz.results61,Ah,Bm,Ab,Bd,A1,Bc,Bf,A0,Ch,E4,A9,Aj,Cg,Ag,Ae,A3,Cf,Bv,Bi,Bz,Bx,A4,B6,Bh,Az,A5,Cl,Ad,Ac,argW,List.map_cons,List.map_nil,List.append_nil,List.flatMap_cons,List.flatMap_nil,Nat.reduceLT,Nat.reduceEqDiff,Nat.reduceAdd,Cc,Bw,↓reduceIte,reduceCtorEq,Nat.zero_add])
 (repeat' (first | (refine iteI (fun h=>?_) (fun h=>?_))|(refine B1 (by first | omega | (simp (disch:=omega) only [Aa,Ak,Ai] at *;omega)) ?_;intro b hb)|(refine And.intro (by first | omega | (simp (disch:=omega) only [Aa,Ak,Ai] at *;omega)) ?_)|((first | (refine Ba hm (by rfl) (by kernel_rfl) ?_)|(refine Det.use (hw) ?_)|(refine Det.useQ (hw) ?_)|(refine Er.use (hw) ?_)|(refine Dp.use (hw) ?_)|(refine Det.use (hp) ?_)|(refine Det.useQ (hp) ?_)|(refine Er.use (hp) ?_)|(refine Dp.use (hp) ?_)|(refine Det.use (hnm) ?_)|(refine Det.useQ (hnm) ?_)|(refine Er.use (hnm) ?_)|(refine Dp.use (hnm) ?_)|(refine Det.use (hb) ?_)|(refine Det.useQ (hb) ?_)|(refine Er.use (hb) ?_)|(refine Dp.use (hb) ?_)|(refine Det.use (i1) ?_)|(refine Det.useQ (i1) ?_)|(refine Er.use (i1) ?_)|(refine Dp.use (i1) ?_)|(refine Det.use (i2) ?_)|(refine Det.useQ (i2) ?_)|(refine Er.use (i2) ?_)|(refine Dp.use (i2) ?_)|(refine Det.use (hla) ?_)|(refine Det.useQ (hla) ?_)|(refine Er.use (hla) ?_)|(refine Dp.use (hla) ?_));simp only [Ah,Bm,Cn,Ab,Bd,A1,Bc,Ct,Bf,Ch,A9,Aj,Ek,Df,Cg,Bo,Bl,G8,Eb,Cu,Lh,Mj,Ag,Ae,A3,E6,Fu,En,F4,Cf,Bv,Bi,Th,Bz,Bx,Fb,A4,Bp,Iw,Ik,Kt,D3,Jbv,Hq,Gk,G2,Dz,Es,Hk,Hp,H6,Lo,Fm,Fh,Fs,Ih,Fx,Mg,Fv,Hs,Hl,Jd,Jz,D6,Bu,Jt,D7,Hm,Ft,Gl,Gn,Fr,Fq,J5,Di,B6,D2,Et,Ey,Bh,Az,Ff,A5,Fe,Hj,Fd,Eu,Fc,Ie,Ig,Fa,Ew,Ht,Ji,Il,Dg,Jg,Gp,Gr,Gs,Gu,Hu,Ho,Bs,Cs,Cr,A6,A7,B9,Av,Ap,Al,B7,B5,Af,Am,Ao,Co,Ay,Aw,B4,C4,Dx,Dk,Fy,N8,Ez,Ks,Ga,I9,Jx,G9,Jq,Cl,Ki,C7,El,Cz,F1,A2,Ad,Ac,Bn,C6,Cq,Bg,Bb,List.map_cons,List.map_nil,List.length_cons,List.length_nil,List.cons_append,List.nil_append,List.append_nil,List.flatMap_cons,List.flatMap_nil,List.contains_cons,List.contains_nil,List.drop_zero,List.getElem?_cons_zero,List.getElem?_cons_succ,decide_eq_true_eq,ne_eq,not_false_eq_true,Nat.reduceLT,Nat.reduceLeDiff,Nat.reduceEqDiff,Nat.reduceAdd,Nat.reduceMul,Nat.reduceBEq,true_and,Cc,Bw,↓reduceIte,reduceCtorEq,Nat.zero_add,Bool.false_eq_true,Bool.true_and,Bool.and_true,Bool.or_false,Bool.or_true,beq_self_eq_true,and_self,W6,Ph,Lx,Ln,l1,l2,t1,t2])|(exact True.intro)|(exfalso;omega)))
end Go.LX
