/- By order, plain: what both sides answer; that it is an alignment. -/
import Derived.Test.YtpdaccjebbbbaaaDoorLxP
import Derived.Test.YtpdaccjebbbbaaaDoorLxO
import Derived.Test.YtpdaccjebbbbaaaDoorLxM
set_option linter.unusedSimpArgs false
set_option linter.unusedVariables false
set_option linter.unusedSectionVars false
set_option linter.unnecessarySimpa false
namespace Go.LX
section
variable {α:Type} [DecidableEq α]
def Jqo (n left en:Nat):List Int:=(List.range n).map fun j=>if left+j<en then ((left+j:Nat):Int) else -1
theorem Jq3 (n left en:Nat):(Jqo n left en).length=n:=by simp [Jqo]
theorem Jy6 {n left en j:Nat} (h:j<n):(Jqo n left en)[j]? = some (if left+j<en then ((left+j:Nat):Int) else -1):=by
 simp [Jqo,h]
def Jrd (old now:List α):Nat→Nat→Nat→Nat→Nat→List Int→List Int
 | 0,_,_,left,kb,done=>done ++ Jqo (now.length - kb) left old.length
 | f+1,a,b,left,kb,done=>match old[a]?,now[b]? with
  | some x,some y=>if x=y then Jrd old now f (a+1) (b+1) (a+1) (b+1) (done ++ Jqo (b - kb) left a ++ [(a:Int)])
   else if lcsP (old.drop a) (now.drop (b+1))≤lcsP (old.drop (a+1)) (now.drop b) then Jrd old now f (a+1) b left kb done
   else Jrd old now f a (b+1) left kb done
  | _,_=>done ++ Jqo (now.length - kb) left old.length
def Jqn (old now:List α):List Int:=Jrd old now (old.length+now.length) 0 0 0 0 []
structure WayO (old now:List α) (a b left kb:Nat) (done:List Int):Prop where
 la:left≤a
 am:a≤old.length
 kbb:kb≤b
 bn:b≤now.length
 len:done.length=kb
 rng:∀ e∈done,-1≤e∧e<(left:Int)
 rise:(done.filter fun e=>decide (0≤e)).Pairwise (· < ·)
theorem Jyr (n left en:Nat):((Jqo n left en).filter fun e=>decide (0≤e)).Pairwise (· < ·):=by
 induction n generalizing left with
 | zero=>simp [Jqo]
 | succ n ih =>
  have e:Jqo (n+1) left en=(if left<en then (left:Int) else -1) :: Jqo n (left+1) en:=by
   simp only [Jqo,List.range_succ_eq_map,List.map_cons,List.map_map,Nat.add_zero];congr 1;apply List.map_congr_left;intro j _;simp only [Function.comp,Nat.succ_eq_add_one];have:left+(j+1)=left+1+j:=by omega
   rw [this]
  rw [e,List.filter_cons];split
  ·refine List.pairwise_cons.2 ⟨fun x hx=>?_,ih (left+1)⟩;obtain ⟨h1,h2⟩:=List.mem_filter.1 hx;obtain ⟨j,hj,rfl⟩:=List.mem_map.1 h1;simp only [decide_eq_true_eq] at h2;split at h2
   ·rename_i h3;rw [if_pos h3]
    first | omega | (split <;> omega)
   ·omega
  ·exact ih (left+1)
theorem Js5 {n left en:Nat}:∀ e∈Jqo n left en,-1≤e∧e<(en:Int)∧(0≤e→(left:Int)≤e):=by
 intro e he;obtain ⟨j,_,rfl⟩:=List.mem_map.1 he;split <;> omega
theorem Jxl {l:List Int} {m:List Int} {k:Int} (h1:(l.filter fun e=>decide (0≤e)).Pairwise (· < ·)) (h2:(m.filter fun e=>decide (0≤e)).Pairwise (· < ·)) (h3:∀ e∈l,e<k) (h4:∀ e∈m,0≤e→k≤e):((l ++ m).filter fun e=>decide (0≤e)).Pairwise (· < ·):=by
 rw [List.filter_append,List.pairwise_append];refine ⟨h1,h2,fun x hx y hy=>?_⟩;have hx':=h3 x (List.mem_filter.1 hx).1;obtain ⟨g1,g2⟩:=List.mem_filter.1 hy;have:=h4 y g1 (by simpa using g2);omega
structure Aligned (m n:Nat) (l:List Int):Prop where
 len:l.length=n
 rng:∀ e∈l,-1≤e∧e<(m:Int)
 rise:(l.filter fun e=>decide (0≤e)).Pairwise (· < ·)
theorem J2y {old now:List α} {a b left kb:Nat} {done:List Int} (h:WayO old now a b left kb done):Aligned old.length now.length (done ++ Jqo (now.length - kb) left old.length):=by
 obtain ⟨h1,h2,h3,h4,h5,h6,h7⟩:=h;refine ⟨by rw [List.length_append,Jq3];omega,fun e he=>?_,?_⟩
 ·rcases List.mem_append.1 he with he | he
  ·have:=h6 e he;omega
  ·have:=Js5 e he;omega
 ·exact Jxl (k:=left) h7 (Jyr _ _ _) (fun e he=>(h6 e he).2) (fun e he h0=>(Js5 e he).2.2 h0)
theorem J3x {old now:List α} {a b left kb:Nat} {done:List Int} (h:WayO old now a b left kb done) (ha:a<old.length) (hb:b<now.length):WayO old now (a+1) (b+1) (a+1) (b+1) (done ++ Jqo (b - kb) left a ++ [(a:Int)]):=by
 obtain ⟨h1,h2,h3,h4,h5,h6,h7⟩:=h;refine ⟨Nat.le_refl _,ha,Nat.le_refl _,hb,by rw [List.length_append,List.length_append,Jq3];simp;omega,fun e he=>?_,?_⟩
 ·rw [List.append_assoc] at he;rcases List.mem_append.1 he with he | he
  ·have:=h6 e he;omega
  ·rcases List.mem_append.1 he with he | he
   ·have:=Js5 e he;omega
   ·simp at he;omega
 ·refine Jxl (k:=a) (Jxl (k:=left) h7 (Jyr _ _ _) (fun e he=>(h6 e he).2) (fun e he h0=>(Js5 e he).2.2 h0)) (by simp) (fun e he=>?_) (fun e he _=>by simp at he;omega);rcases List.mem_append.1 he with he | he
  ·have:=(h6 e he).2;omega
  ·exact (Js5 e he).2.1
theorem Jsh {old now:List α}:∀ (f a b left kb:Nat) (done:List Int),WayO old now a b left kb done→Aligned old.length now.length (Jrd old now f a b left kb done)
 | 0,a,b,left,kb,done,h=>J2y h
 | f+1,a,b,left,kb,done,h=>by
  rw [Jrd];split
  ·rename_i x y hx hy;have ha:=(List.getElem?_eq_some_iff.1 hx).1;have hb:=(List.getElem?_eq_some_iff.1 hy).1;have h':=h;obtain ⟨h1,h2,h3,h4,h5,h6,h7⟩:=h';split
   ·exact Jsh f _ _ _ _ _ (J3x h ha hb)
   ·split
    ·exact Jsh f _ _ _ _ _ ⟨by omega,ha,h3,h4,h5,h6,h7⟩
    ·exact Jsh f _ _ _ _ _ ⟨h1,h2,by omega,hb,h5,h6,h7⟩
  ·exact J2y h
theorem Jqw (old now:List α):Aligned old.length now.length (Jqn old now) :=
 Jsh _ _ _ _ _ _ ⟨Nat.le_refl _,Nat.zero_le _,Nat.le_refl _,Nat.zero_le _,rfl,fun e he=>(by cases he),by simp⟩
def sameAt (old now:List α) (l:List Int) (k:Nat):Bool:=match l[k]? with
 | some e=>decide (0≤e∧old[e.toNat]? = now[k]?)
 | none=>false
def Juh (old now:List α) (l:List Int):Nat:=((List.range l.length).filter (sameAt old now l)).length
theorem J07 {old now:List α} {l m:List Int} {k:Nat} (h:k<l.length):sameAt old now (l ++ m) k=sameAt old now l k:=by
 unfold sameAt;rw [List.getElem?_append_left h]
theorem Jvv {old now:List α} (l m:List Int):Juh old now l≤Juh old now (l ++ m):=by
 unfold Juh;rw [List.length_append,List.range_add,List.filter_append,List.length_append];have:(List.range l.length).filter (sameAt old now (l ++ m))=(List.range l.length).filter (sameAt old now l):=List.filter_congr fun k hk=>J07 (List.mem_range.1 hk)
 rw [this];omega
theorem J1p {old now:List α} {l:List Int} {a:Nat} {x:α} (hx:old[a]? = some x) (hy:now[l.length]? = some x):Juh old now (l ++ [(a:Int)])=Juh old now l+1:=by
 unfold Juh;rw [List.length_append,List.range_add,List.filter_append,List.length_append];have h1:(List.range l.length).filter (sameAt old now (l ++ [(a:Int)]))=(List.range l.length).filter (sameAt old now l):=List.filter_congr fun k hk=>J07 (List.mem_range.1 hk)
 rw [h1];have h2:sameAt old now (l ++ [(a:Int)]) l.length=true:=by
  unfold sameAt;rw [List.getElem?_append_right (Nat.le_refl _),Nat.sub_self];simp [hx,hy]
 simp [h2]
theorem Jti {old now:List α}:∀ (f a b left kb:Nat) (done:List Int),(old.length - a)+(now.length - b)≤f→kb≤b→b≤now.length→done.length=kb→Juh old now done+lcsP (old.drop a) (now.drop b)≤Juh old now (Jrd old now f a b left kb done)
 | 0,a,b,left,kb,done,hf,_,_,_=>by
  rw [Jrd,List.drop_eq_nil_of_le (show old.length≤a by omega),Jru];exact Jvv _ _
 | f+1,a,b,left,kb,done,hf,hk,hbn,hd=>by
  rw [Jrd];split
  ·rename_i x y hx hy;have ha:=(List.getElem?_eq_some_iff.1 hx).1;have hb:=(List.getElem?_eq_some_iff.1 hy).1;have e1:old.drop a=x :: old.drop (a+1):=by rw [List.drop_eq_getElem_cons ha];congr 1;rw [List.getElem?_eq_getElem ha] at hx;exact Option.some.inj hx
   have e2:now.drop b=y :: now.drop (b+1):=by rw [List.drop_eq_getElem_cons hb];congr 1;rw [List.getElem?_eq_getElem hb] at hy;exact Option.some.inj hy
   split
   ·rename_i hxy;subst hxy;have:=Jti (old:=old) (now:=now) f (a+1) (b+1) (a+1) (b+1) (done ++ Jqo (b - kb) left a ++ [(a:Int)]) (by omega) (Nat.le_refl _) hb (by rw [List.length_append,List.length_append,Jq3];simp;omega);have h2:=J1p (now:=now) (l:=done ++ Jqo (b - kb) left a) hx (by rw [List.length_append,Jq3,show done.length+(b - kb)=b by omega];exact hy);have h3:=Jvv (old:=old) (now:=now) done (Jqo (b - kb) left a);rw [e1,e2,Jre,if_pos rfl];omega
   ·rename_i hxy;have h4:lcsP (old.drop a) (now.drop b)=max (lcsP (old.drop (a+1)) (now.drop b)) (lcsP (old.drop a) (now.drop (b+1))):=by
     rw [e1,e2,Jre,if_neg hxy]
    split
    ·have:=Jti (old:=old) (now:=now) f (a+1) b left kb done (by omega) hk hbn hd;omega
    ·have:=Jti (old:=old) (now:=now) f a (b+1) left kb done (by omega) (by omega) hb hd;omega
  ·rename_i hno;have:old.drop a=[]∨now.drop b=[]:=by
    by_cases ha:a<old.length
    ·right;by_cases hb:b<now.length
     ·exact (hno _ _ (List.getElem?_eq_getElem ha) (List.getElem?_eq_getElem hb)).elim
     ·exact List.drop_eq_nil_of_le (by omega)
    ·left;exact List.drop_eq_nil_of_le (by omega)
   have h0:lcsP (old.drop a) (now.drop b)=0:=by rcases this with h | h <;> rw [h];exact Jru _;exact Jsb _
   rw [h0];exact Jvv _ _
theorem J0n (old now:List α):lcsP old now≤Juh old now (Jqn old now):=by
 have:=Jti (old:=old) (now:=now) (old.length+now.length) 0 0 0 0 [] (by omega) (Nat.le_refl _) (Nat.zero_le _) rfl;rw [List.drop_zero,List.drop_zero] at this;unfold Jqn;omega
end
section
variable {α:Type} [DecidableEq α]
def occ (x:α):List α→Nat→Nat→Option Nat
 | [],_,_=>none
 | y :: l,r,o=>if y=x then (if r=0 then some o else occ x l (r - 1) (o+1)) else occ x l r (o+1)
theorem Jws (x:α) (r o:Nat):occ x [] r o=none:=rfl
theorem Jr7 (x y:α) (l:List α) (r o:Nat):occ x (y :: l) r o=if y=x then (if r=0 then some o else occ x l (r - 1) (o+1)) else occ x l r (o+1):=rfl
theorem Juw {x:α}:∀ {l:List α} {r o k:Nat},occ x l r o=some k→∃ j,k=o+j∧l[j]? = some x∧(l.take j).count x=r
 | [],r,o,k,h=>by rw [Jws] at h;cases h
 | y :: l,r,o,k,h=>by
  rw [Jr7] at h;split at h
  ·rename_i e;subst e;cases r with
   | zero=>rw [if_pos rfl,Option.some.injEq] at h;exact ⟨0,by omega,rfl,by simp⟩
   | succ r =>
    rw [if_neg (by omega),Nat.add_sub_cancel] at h;obtain ⟨j,rfl,h2,h3⟩:=Juw h;exact ⟨j+1,by omega,by simpa using h2,by simp [h3]⟩
  ·rename_i e;obtain ⟨j,rfl,h2,h3⟩:=Juw h;exact ⟨j+1,by omega,by simpa using h2,by rw [List.take_succ_cons,List.count_cons_of_ne e,h3]⟩
theorem J4z {x:α}:∀ {l:List α} {j o:Nat},l[j]? = some x→occ x l ((l.take j).count x) o=some (o+j)
 | [],j,o,h=>by simp at h
 | y :: l,0,o,h=>by simp at h;subst h;rw [Jr7,if_pos rfl];rfl
 | y :: l,j+1,o,h=>by
  have ih:=J4z (l:=l) (j:=j) (o:=o+1) (by simpa using h);rw [Jr7,List.take_succ_cons];by_cases e:y=x
  ·subst e;rw [if_pos rfl,List.count_cons_self,if_neg (by omega),Nat.add_sub_cancel,ih];congr 1;omega
  ·rw [if_neg e,List.count_cons_of_ne e,ih];congr 1;omega
theorem Jw0 {x:α}:∀ {l:List α} {r o:Nat},occ x l r o=none ↔ l.count x≤r
 | [],r,o=>by simp [Jws]
 | y :: l,r,o=>by
  rw [Jr7];by_cases e:y=x
  ·subst e;rw [if_pos rfl,List.count_cons_self];cases r with
   | zero=>simp
   | succ r=>rw [if_neg (by omega),Nat.add_sub_cancel,Jw0];omega
  ·rw [if_neg e,List.count_cons_of_ne e,Jw0]
def keyE (old now:List α) (i:Nat):Int:=match now[i]? with
 | some y=>(match occ y old ((now.take i).count y) 0 with
  | some k=>(k:Int)
  | none=>-1)
 | none=>-1
def keyP (old now:List α):List Int:=(List.range now.length).map (keyE old now)
theorem Jrc (old now:List α):(keyP old now).length=now.length:=by simp [keyP]
theorem Jr9 {old now:List α} {i:Nat} (h:i<now.length):(keyP old now)[i]? = some (keyE old now i):=by simp [keyP,h]
theorem Jtv {old now:List α} {i:Nat} {y:α} (h:now[i]? = some y) {k:Nat}:keyE old now i=(k:Int) ↔ old[k]? = some y∧(old.take k).count y=(now.take i).count y:=by
 unfold keyE;rw [h];simp only;constructor
 ·intro e;cases ho:occ y old ((now.take i).count y) 0 with
  | none=>rw [ho] at e;simp only at e;omega
  | some k' =>
   rw [ho] at e;simp only at e;obtain ⟨j,h1,h2,h3⟩:=Juw ho;obtain rfl:k=j:=by omega
   exact ⟨h2,h3⟩
 ·rintro ⟨h1,h2⟩;rw [← h2,J4z h1];simp
theorem J4e {old now:List α} {i:Nat} {y:α} (h:now[i]? = some y):keyE old now i = -1 ↔ old.count y≤(now.take i).count y:=by
 rw [← Jw0 (o:=0)];unfold keyE;rw [h];simp only;cases occ y old ((now.take i).count y) 0 with
 | none=>simp
 | some k=>simp
theorem Juk {old now:List α} (i:Nat):keyE old now i = -1∨∃ k:Nat,keyE old now i=(k:Int)∧k<old.length:=by
 unfold keyE;split
 ·split
  ·rename_i k ho;obtain ⟨j,h1,h2,_⟩:=Juw ho;exact .inr ⟨k,rfl,by have:=(List.getElem?_eq_some_iff.1 h2).1;omega⟩
  ·exact .inl rfl
 ·exact .inl rfl
theorem Jue {l:List α} {i j:Nat} {y:α} (hi:l[i]? = some y) (h:i<j):(l.take i).count y<(l.take j).count y:=by
 have h1:l.take (i+1)=l.take i ++ [y]:=by rw [List.take_add_one,hi];rfl
 have h2:(l.take (i+1)).Sublist (l.take j):=by
  have:l.take (i+1)=(l.take j).take (i+1):=by rw [List.take_take];congr 1;omega
  rw [this];exact List.take_sublist _ _
 have h3:=h2.count_le y;rw [h1,List.count_append] at h3;simp at h3;omega
theorem J35 {old now:List α} {i j:Nat} {k:Nat} (hi:i<now.length) (hj:j<now.length) (h1:keyE old now i=(k:Int)) (h2:keyE old now j=(k:Int)):i=j:=by
 obtain ⟨y,hy⟩:∃ y,now[i]? = some y:=⟨_,List.getElem?_eq_getElem hi⟩
 obtain ⟨z,hz⟩:∃ z,now[j]? = some z:=⟨_,List.getElem?_eq_getElem hj⟩
 obtain ⟨a1,a2⟩:=(Jtv hy).1 h1;obtain ⟨b1,b2⟩:=(Jtv hz).1 h2;rw [a1] at b1;cases b1;rcases Nat.lt_trichotomy i j with h | h | h
 ·have:=Jue hy h;omega
 ·exact h
 ·have:=Jue hz h;omega
theorem J25 {l:List α} {n i:Nat} (hn:n≤l.length) (hi:i<n):keyE l (l.take n) i=(i:Int):=by
 obtain ⟨y,hy⟩:∃ y,l[i]? = some y:=⟨_,List.getElem?_eq_getElem (by omega)⟩
 have h1:(l.take n)[i]? = some y:=by rw [List.getElem?_take,if_pos hi,hy]
 rw [Jtv h1];refine ⟨hy,?_⟩;rw [List.take_take,Nat.min_eq_left (by omega)]
end
section
variable {α:Type} [DecidableEq α]
def Jqp (n:Nat):List Int:=(List.range n).map fun i:Nat=>(i:Int)
theorem Jqx (n:Nat):(Jqp n).length=n:=by simp [Jqp]
theorem Jvd (n:Nat):Jqp (n+1)=Jqp n ++ [(n:Int)]:=by simp [Jqp,List.range_succ]
theorem Jty {n i:Nat} (h:i<n):(Jqp n)[i]? = some (i:Int):=by simp [Jqp,h]
theorem Jzs {m n:Nat} (h:n≤m):(Jqp m).take n=Jqp n:=by
 apply List.ext_getElem?;intro i;rw [List.getElem?_take];split
 ·rename_i hi;rw [Jty (by omega),Jty hi]
 ·rw [List.getElem?_eq_none (by rw [Jqx];omega)]
theorem Jys {l:List α} {n:Nat} (hn:n≤l.length):∀ (f a:Nat),a≤n→l.length+n≤f+2 * a→Jrd l (l.take n) f a a a a (Jqp a)=Jqp n
 | 0,a,ha,hf=>by
  obtain rfl:a=n:=by omega
  have h0:(l.take a).length - a=0:=by rw [List.length_take];omega
  rw [Jrd,h0];simp [Jqo]
 | f+1,a,ha,hf=>by
  rw [Jrd];by_cases h:a<n
  ·obtain ⟨x,hx⟩:∃ x,l[a]? = some x:=⟨_,List.getElem?_eq_getElem (by omega)⟩
   have hy:(l.take n)[a]? = some x:=by rw [List.getElem?_take,if_pos h,hx]
   rw [hx,hy];simp only [if_true];have e:Jqp a ++ Jqo (a - a) a a ++ [(a:Int)]=Jqp (a+1):=by rw [Nat.sub_self,Jvd];simp [Jqo]
   rw [e];exact Jys hn f (a+1) h (by omega)
  ·obtain rfl:a=n:=by omega
   have hy:(l.take a)[a]? = none:=List.getElem?_eq_none (by rw [List.length_take];omega);have h0:(l.take a).length - a=0:=by rw [List.length_take];omega
   rw [hy,h0];cases l[a]? <;> simp [Jqo]
theorem Jw8 (l:List α) (n:Nat) (hn:n≤l.length):Jqn l (l.take n)=Jqp n:=by
 unfold Jqn;exact Jys hn (l.length+(l.take n).length) 0 (Nat.zero_le _) (by rw [List.length_take];omega)
theorem J15 (l:List α):Jqn [] l=List.replicate l.length (-1):=by
 have h:(Jqo l.length 0 0)=List.replicate l.length (-1):=by
  apply List.ext_getElem?;intro i;rw [List.getElem?_replicate];split
  ·rename_i hi;rw [Jy6 hi,if_neg (by omega)]
  ·rw [List.getElem?_eq_none (by rw [Jq3];omega)]
 unfold Jqn;cases hl:([]:List α).length+l.length with
 | zero=>rw [Jrd];simpa using h
 | succ f=>rw [Jrd];simpa using h
theorem J0b (l:List α) (n:Nat) (hn:n≤l.length):keyP l (l.take n)=Jqp n:=by
 apply List.ext_getElem?;intro i;by_cases hi:i<n
 ·rw [Jr9 (by rw [List.length_take];omega),Jty hi,J25 hn hi]
 ·rw [List.getElem?_eq_none (by rw [Jrc,List.length_take];omega),List.getElem?_eq_none (by rw [Jqx];omega)]
def metK (old now:List α) (y:α) (k:Nat):Nat:=((List.range k).filter fun i=>decide (0≤keyE old now i∧now[i]? = some y)).length
theorem Jvr (old now:List α) (y:α) (k:Nat):metK old now y (k+1)=metK old now y k+if 0≤keyE old now k∧now[k]? = some y then 1 else 0:=by
 unfold metK;rw [List.range_succ,List.filter_append,List.length_append];congr 1;by_cases h:0≤keyE old now k∧now[k]? = some y
 ·rw [if_pos h,List.filter_cons_of_pos (by simpa using h)];rfl
 ·rw [if_neg h,List.filter_cons_of_neg (by simpa using h)];rfl
theorem J1f {old now:List α} {y:α}:∀ k,k≤now.length→metK old now y k=min (old.count y) ((now.take k).count y)
 | 0,_=>by simp [metK]
 | k+1,hk=>by
  have ih:=J1f (old:=old) (now:=now) (y:=y) k (by omega);obtain ⟨z,hz⟩:∃ z,now[k]? = some z:=⟨_,List.getElem?_eq_getElem (by omega)⟩
  have ht:now.take (k+1)=now.take k ++ [z]:=by rw [List.take_add_one,hz];rfl
  rw [Jvr,ih,ht,List.count_append];by_cases e:z=y
  ·subst e;have h1:=J4e (old:=old) hz;have h2:=Juk (old:=old) (now:=now) k;rw [show List.count z [z]=1 by simp];by_cases hc:old.count z≤(now.take k).count z
   ·have e1:=h1.2 hc;rw [if_neg (fun h=>by have:=h.1;rw [e1] at this;exact absurd this (by decide)),Nat.min_eq_left hc,Nat.min_eq_left (by omega),Nat.add_zero]
   ·have:0≤keyE old now k:=by
     rcases h2 with h2 | ⟨j,h2,_⟩
     ·exact absurd (h1.1 h2) hc
     ·rw [h2];exact Int.natCast_nonneg j
    rw [if_pos ⟨this,hz⟩,Nat.min_eq_right (by omega),Nat.min_eq_right (by omega)]
  ·rw [if_neg (by rw [hz];rintro ⟨_,h⟩;exact e (Option.some.inj h)),show List.count y [z]=0 by simp [List.count_cons,e]];omega
end
def Jv2 (l:List Int):Nat:=l.length - (l.reverse.takeWhile fun e=>decide (e<0)).length
theorem J0u {done:List Int} {m:Nat} (h:done=[]∨∃ p a,done=p ++ [a]∧0≤a):Jv2 (done ++ List.replicate m (-1))=done.length:=by
 have h1:∀ r:List Int,(∀ a,r.head? = some a→0≤a)→∀ m,((List.replicate m (-1:Int) ++ r).takeWhile fun e=>decide (e<0)).length=m:=by
  intro r hr m
  induction m with
  | zero =>
   cases r with
   | nil=>rfl
   | cons a r =>
    have:=hr a rfl;rw [List.replicate_zero,List.nil_append,List.takeWhile_cons_of_neg (by simpa using this)];rfl
  | succ m ih=>rw [List.replicate_succ,List.cons_append,List.takeWhile_cons_of_pos (by decide),List.length_cons,ih]
 unfold Jv2;rw [List.reverse_append,List.reverse_replicate,h1,List.length_append,List.length_replicate]
 ·omega
 ·intro a ha;rcases h with rfl | ⟨p,b,rfl,hb⟩
  ·simp at ha
  ·simp at ha;omega
def Jsq (l:List Int) (left en:Nat):List Int:=l.take (Jv2 l) ++ Jqo (l.length - Jv2 l) left en
theorem J06 {done:List Int} {m left en:Nat} (h:done=[]∨∃ p a,done=p ++ [a]∧0≤a):Jsq (done ++ List.replicate m (-1)) left en=done ++ Jqo m left en:=by
 unfold Jsq;rw [J0u h,List.take_left,List.length_append,List.length_replicate,Nat.add_sub_cancel_left]
end Go.LX
namespace Go.LX
open Go Go.RowKit Go.Proofs
def Jqb (l:List Int):List (List PV):=l.map fun z=>[.int .i64 z]
@[simp] theorem Jqc (l:List Int):(Jqb l).length=l.length:=by simp [Jqb]
theorem Jqg {l:List Int} {i:Nat} {z:Int} (h:l[i]? = some z):(Jqb l)[i]? = some [.int .i64 z]:=by simp [Jqb,h]
theorem Jrg (l:List Int) (i:Nat) (z:Int):(Jqb l).set i [.int .i64 z]=Jqb (l.set i z):=by simp [Jqb,List.map_set]
theorem Jrf (a b:List Int):Jqb (a ++ b)=Jqb a ++ Jqb b:=by simp [Jqb]
theorem Jrh (l:List Int):∀ q∈Jqb l,q.length=1:=fun q hq=>by
 obtain ⟨z,_,rfl⟩:=List.mem_map.1 hq;rfl
theorem Jrn (n:Nat) (z:Int):List.replicate n [PV.int .i64 z]=Jqb (List.replicate n z):=by simp [Jqb]
section
variable {α:Type} [DecidableEq α]
def Jqk (old now:List α) (i k:Nat):Nat:=lcsP (old.drop i) (now.drop k)
theorem J3v (old now:List α) (i:Nat):Jqk old now i now.length=0:=by unfold Jqk;rw [List.drop_length,Jsb]
theorem J1r (old now:List α) (k:Nat):Jqk old now old.length k=0:=by unfold Jqk;rw [List.drop_length,Jru]
theorem J2d {old now:List α} {i k:Nat} {x y:α} (hx:old[i]? = some x) (hy:now[k]? = some y):Jqk old now i k=if x=y then Jqk old now (i+1) (k+1)+1 else max (Jqk old now (i+1) k) (Jqk old now i (k+1)):=by
 have ha:=(List.getElem?_eq_some_iff.1 hx).1;have hb:=(List.getElem?_eq_some_iff.1 hy).1;have e1:old.drop i=x :: old.drop (i+1):=by rw [List.drop_eq_getElem_cons ha];congr 1;rw [List.getElem?_eq_getElem ha] at hx;exact Option.some.inj hx
 have e2:now.drop k=y :: now.drop (k+1):=by rw [List.drop_eq_getElem_cons hb];congr 1;rw [List.getElem?_eq_getElem hb] at hy;exact Option.some.inj hy
 unfold Jqk;rw [e1,e2,Jre]
theorem J0s (old now:List α) (i k:Nat):Jqk old now i k≤old.length:=by
 have:=J0i (old.drop i) (now.drop k);rw [List.length_drop] at this;unfold Jqk;omega
def rowK (old now:List α) (i k:Nat):List Int:=(List.range (now.length+1)).map fun j=>if k≤j then (Jqk old now i j:Int) else 0
@[simp] theorem rowK_len (old now:List α) (i k:Nat):(rowK old now i k).length=now.length+1:=by simp [rowK]
theorem Jq2 {old now:List α} {i k j:Nat} (h:k≤j) (hj:j≤now.length):(rowK old now i k)[j]? = some (Jqk old now i j:Int):=by
 have:j<now.length+1:=by omega
 simp [rowK,this,h]
theorem Jye {old now:List α} {i k j:Nat} (hj:j<k∧j≤now.length):(rowK old now i k)[j]? = some 0:=by
 have h1:j<now.length+1:=by omega
 have h2:¬ k≤j:=by omega
 simp [rowK,h1,h2]
theorem Jta (old now:List α) (i:Nat):rowK old now i now.length=List.replicate (now.length+1) 0:=by
 refine List.ext_getElem? fun j=>?_
 by_cases hj:j<now.length+1
 ·simp only [rowK,List.getElem?_map,List.getElem?_range hj,Option.map_some,List.getElem?_replicate,hj,if_true];split
  ·have:j=now.length:=by omega
   rw [this,J3v];rfl
  ·rfl
 ·rw [List.getElem?_eq_none (by simp;omega),List.getElem?_eq_none (by simp;omega)]
theorem Jyt (old now:List α):rowK old now old.length 0=List.replicate (now.length+1) 0:=by
 refine List.ext_getElem? fun j=>?_
 by_cases hj:j<now.length+1
 ·simp only [rowK,List.getElem?_map,List.getElem?_range hj,Option.map_some,List.getElem?_replicate,hj,if_true,Nat.zero_le,J1r];rfl
 ·rw [List.getElem?_eq_none (by simp;omega),List.getElem?_eq_none (by simp;omega)]
theorem Jvf {old now:List α} {i k:Nat} (h:k<now.length):(rowK old now i (k+1)).set k (Jqk old now i k:Int)=rowK old now i k:=by
 refine List.ext_getElem? fun j=>?_
 rw [List.getElem?_set];by_cases hj:j<now.length+1
 ·by_cases e:k=j
  ·subst e;rw [if_pos rfl,if_pos (by simp;omega),Jq2 (Nat.le_refl _) omg]
  ·rw [if_neg e];simp only [rowK,List.getElem?_map,List.getElem?_range hj,Option.map_some];by_cases hk:k+1≤j
   ·rw [if_pos hk,if_pos omg]
   ·rw [if_neg hk,if_neg omg]
 ·rw [if_neg omg,List.getElem?_eq_none (by simp;omega),List.getElem?_eq_none (by simp;omega)]
def tabP (old now:List α):List (List Int):=(List.range (old.length+1)).map fun i=>rowK old now i 0
def tabL (old now:List α):List (List PV):=(tabP old now).map fun r=>[.sl (Jqb r)]
@[simp] theorem tabL_len (old now:List α):(tabL old now).length=old.length+1:=by simp [tabL,tabP]
theorem Jsn {old now:List α} {i:Nat} (h:i≤old.length):(tabL old now)[i]? = some [.sl (Jqb (rowK old now i 0))]:=by
 have:i<old.length+1:=by omega
 simp [tabL,tabP,this]
def tabM (old now:List α) (i:Nat):List (List L):=(List.range (old.length+1)).map fun j=>if i≤j then [.p (.sl (Jqb (rowK old now j 0)))] else [.p .snil]
@[simp] theorem tabM_len (old now:List α) (i:Nat):(tabM old now i).length=old.length+1:=by simp [tabM]
theorem Jrx {old now:List α} {i j:Nat} (h:i≤j) (hj:j≤old.length):(tabM old now i)[j]? = some [.p (.sl (Jqb (rowK old now j 0)))]:=by
 have:j<old.length+1:=by omega
 simp [tabM,this,h]
theorem Jr2 {old now:List α} {i j:Nat} (h:j<i) (hj:j≤old.length):(tabM old now i)[j]? = some [.p .snil]:=by
 have h1:j<old.length+1:=by omega
 have h2:¬ i≤j:=by omega
 simp [tabM,h1,h2]
theorem J39 {old now:List α} {i:Nat} (h:i<old.length):(tabM old now (i+1)).set i [.p (.sl (Jqb (rowK old now i 0)))]=tabM old now i:=by
 refine List.ext_getElem? fun j=>?_
 rw [List.getElem?_set];by_cases hj:j<old.length+1
 ·by_cases e:i=j
  ·subst e;rw [if_pos rfl,if_pos (by simp;omega),Jrx (Nat.le_refl _) omg]
  ·rw [if_neg e];by_cases hk:i+1≤j
   ·rw [Jrx hk omg,Jrx omg omg]
   ·rw [Jr2 omg omg,Jr2 omg omg]
 ·rw [if_neg omg,List.getElem?_eq_none (by simp;omega),List.getElem?_eq_none (by simp;omega)]
theorem J3q (old now:List α):tabM old now 0=(tabL old now).map (List.map L.p):=by
 refine List.ext_getElem? fun j=>?_
 by_cases hj:j<old.length+1
 ·rw [Jrx (Nat.zero_le _) omg,List.getElem?_map,Jsn omg];rfl
 ·rw [List.getElem?_eq_none (by simp;omega),List.getElem?_eq_none (by simp;omega)]
theorem J0p (old now:List α) (i d:Nat) (z:Fz):(tabM old now i).map (fun e=>e.map (L.freeze d z))=tabM old now i:=by
 unfold tabM;rw [List.map_map];refine List.map_congr_left fun j _=>?_
 simp only [Function.comp];split <;> rfl
def tabJ (old now:List α) (i k:Nat):List (List L):=tabM old now i ++ List.replicate k [L.junk]
theorem J1h {old now:List α} {i k j:Nat} (h:i≤j) (hj:j≤old.length):(tabJ old now i k)[j]? = some [.p (.sl (Jqb (rowK old now j 0)))]:=by
 unfold tabJ;rw [List.getElem?_append_left (by simp;omega),Jrx h hj]
theorem Jyz {old now:List α} {i k j:Nat} (h:j<i) (hj:j≤old.length):(tabJ old now i k)[j]? = some [.p .snil]:=by
 unfold tabJ;rw [List.getElem?_append_left (by simp;omega),Jr2 h hj]
@[simp] theorem tabJ_len (old now:List α) (i k:Nat):(tabJ old now i k).length=old.length+1+k:=by simp [tabJ]
theorem J5h {old now:List α} {i k:Nat} (h:i<old.length):(tabJ old now (i+1) k).set i [.p (.sl (Jqb (rowK old now i 0)))]=tabJ old now i k:=by
 unfold tabJ;rw [List.set_append_left _ _ (by simp;omega),J39 h]
theorem Jsa (old now:List α) (i k d:Nat) (z:Fz):(tabJ old now i k).map (fun e=>e.map (L.freeze d z))=tabJ old now i k:=by
 unfold tabJ;rw [List.map_append,J0p,List.map_replicate];rfl
theorem J0d (old now:List α) (i k:Nat) {g:L→L} (h1:∀ x,g (.p x)=.p x) (h2:g .junk=.junk):(tabJ old now i k).map (fun e=>e.map g)=tabJ old now i k:=by
 unfold tabJ tabM;rw [List.map_append,List.map_replicate,List.map_map];congr 1
 ·refine List.map_congr_left fun j _=>?_
  simp only [Function.comp];split <;> simp only [List.map_cons,List.map_nil,h1]
 ·simp only [List.map_cons,List.map_nil,h2]
theorem Jtq (old now:List α) (i k d:Nat):(tabJ old now i k).map (fun e=>e.map (L.forget d))=tabJ old now i k:=J0d old now i k (fun x=>rfl) rfl
theorem Jvg (old now:List α) (i k:Nat) (f:Nat→Option Nat):(tabJ old now i k).map (fun e=>e.map (L.map f))=tabJ old now i k:=J0d old now i k (fun x=>rfl) rfl
theorem Jv5:∀ l:List L,Aw l l
 | []=>trivial
 | a :: l=>⟨Ai a,Jv5 l⟩
@[
 simp] theorem J0t:∀ l:List (List L),Jbp l l
 | []=>trivial
 | e :: l=>⟨Jv5 e,J0t l⟩
theorem J1z (old now:List α):((List.replicate (old.length+1) [PV.snil]).set old.length [.sl (Jqb (List.replicate (now.length+1) 0))]).map (List.map L.p)=tabM old now old.length:=by
 refine List.ext_getElem? fun j=>?_
 rw [List.getElem?_map,List.getElem?_set];by_cases hj:j<old.length+1
 ·by_cases e:old.length=j
  ·subst e;rw [if_pos rfl,if_pos sm,Jrx (Nat.le_refl _) (Nat.le_refl _),Jyt];rfl
  ·rw [if_neg e,Jr2 omg omg,List.getElem?_replicate,if_pos hj];rfl
 ·rw [if_neg omg,List.getElem?_eq_none (by simp;omega),List.getElem?_eq_none (by simp;omega)];rfl
theorem J2b (old now:List α) (k:Nat):((List.replicate (old.length+1) [PV.snil]).set old.length [.sl (Jqb (List.replicate (now.length+1) 0))]).map (List.map L.p) ++ List.replicate k [L.junk]=tabJ old now old.length k:=by rw [J1z];rfl
theorem Jyl (old now:List α) (k:Nat):Cb ((tabJ old now 0 k).take (old.length+1))=some (tabL old now):=by
 unfold tabJ;rw [J3q,Gd sm,List.take_of_length_le sm]
end
section
variable {X:Cx} {ro:Option Nat} {md:Region.Mode} {ops:Array Oper}
def YSAt (X:Cx) (ds:List (Option Tmp)) (ops:List Oper) (i:Nat) (C:St→Prop) (s:St):Prop:=match ops[i]? with
 | some o=>YS X ds s o fun l=>C (s.put o.dst l)
 | none=>False
def lTake (X:Cx) (ds:List (Option Tmp)) (ops:List Oper) (E:St→Prop):List Nat→St→Prop
 | [],s=>E s
 | i :: I,s=>YSAt X ds ops i (lTake X ds ops E I) s
def takeB (md:Region.Mode) (ops:Array Oper) (k:Nat):List Nat→Array Bool→Bool
 | [],_=>true
 | i :: I,listed=>(Region.ready md ops listed).contains i && (Region.free md ops listed i && (decide (i<k) && ((List.range ops.size).all (fun j=>decide (j<k) || ancB md ops ops.size i j) && takeB md ops k I (listed.setIfInBounds i true))))
def J1q:List Nat→Array Bool→Array Bool
 | [],listed=>listed
 | i :: I,listed=>J1q I (listed.setIfInBounds i true)
def J4v (X:Cx) (ds:List (Option Tmp)) (ops:List Oper) (k:Nat) (K:St→Prop):Ord→St→Prop
 | .leaf,s=>K s
 | .nil,_=>True
 | .bad,_=>False
 | .node i sub next,s=>(if i<k then YSAt X ds ops i (J4v X ds ops k K sub) s else lAt X ds ops i (J4v X ds ops k K sub) s)∧J4v X ds ops k K next s
end
section
variable {X:Cx} {ds:List (Option Tmp)} {t:List L} {r:Regs} {E:St→Prop}
theorem y_at0 {o:Oper} {ops:List Oper}:YSAt X ds (o :: ops) 0 E ⟨t,r⟩=YS X ds ⟨t,r⟩ o (kput o.dst E ⟨t,r⟩):=(rfl)
theorem y_atS {o:Oper} {ops:List Oper} {i:Nat}:YSAt X ds (o :: ops) (i+1) E ⟨t,r⟩=YSAt X ds ops i E ⟨t,r⟩:=(rfl)
attribute [go_sem] y_at0 y_atS
end
def farL:L→Bool
 | .p _=>true
 | .eptr _=>true
 | _=>false
theorem Jtf {d:Nat} {l:L} (h:farL l=true):L.forget d l=l:=by
 cases l <;> simp [farL] at h <;> rfl
theorem J58 {P:Program} {regs regs':List (Nat×Reg)} {ρ:Operand→L} {op:Op} {l:L} (hf:∀ x∈op.operands.toList,farL (ρ x)=true) (h:lqv P regs ρ op l):lqv P regs' ρ op l:=by
 cases op with
 | lookup t x ix ok =>
  have hx:=hf x (by simp [Op.operands]);have e:Tz regs (ρ x)=Tz regs' (ρ x):=by
   unfold Tz;cases hρ:ρ x <;> rw [hρ] at hx <;> simp [farL] at hx <;> (try rfl)
   rename_i a;cases a <;> rfl
  simp only [lqv,Yc] at h ⊢;rw [← e];exact h
 | call c =>
  obtain ⟨callee,args,ts⟩:=c;cases callee with
  | builtin b =>
   cases b with
   | cap =>
    simp only [lqv] at h ⊢;split at h
    ·rename_i x t hargs hts;have hx:=hf x (by simp [Op.operands,Call.operands,hargs]);revert h;cases hρ:ρ x <;> rw [hρ] at hx <;> simp [farL] at hx
     ·rename_i a;cases a <;> exact id
     ·exact id
    ·exact h
   | _=>exact h
  | _=>exact h
 | _=>exact h
theorem lq_far {P:Program} {regs regs':List (Nat×Reg)} {ρ:Operand→L} {op:Op} {K:L→Prop} (hf:∀ x∈op.operands.toList,farL (ρ x)=true) (h:lq P regs ρ op K):lq P regs' ρ op K:=by
 have ptr:∀ {x:L} {d i j:Nat},farL x=true→x=.ptr d i j→False:=by intro x d i j h e;subst e;cases h
 unfold lq at h ⊢;split at h
 case h_8 =>
  rename_i a;have hx:=hf a (by simp [Op.operands]);revert h;unfold Jc;generalize B2 P _=b;rcases b with _ | _ | _ <;> cases hρ:ρ a <;> rw [hρ] at hx <;> simp [farL] at hx <;> exact id
 case h_11 =>
  rename_i x y;have hx:=hf x (by simp [Op.operands]);revert h;unfold Dg;generalize ρ y=iy;cases hρ:ρ x <;> rw [hρ] at hx <;> simp [farL] at hx
  ·rename_i a;cases iy with
   | p b=>cases a <;> cases b <;> exact id
   | _=>cases a <;> exact id
  ·cases iy with
   | p b=>cases b <;> exact id
   | _=>exact id
 case h_13 t x lo hi mx =>
  have hx:=hf x (by simp [Op.operands]);revert h;unfold G2;generalize P.underlying t=u;cases hρ:ρ x <;> rw [hρ] at hx <;> simp [farL] at hx
  ·rename_i a;cases u with
   | none=>exact id
   | some u=>cases u <;> cases a <;> exact id
  ·cases u with
   | none=>exact id
   | some u=>cases u <;> exact id
 all_goals first
  | exact h
  | skip
 obtain ⟨l,h1,h2⟩:=h;exact ⟨l,J58 hf h1,h2⟩
section
variable {X:Cx} {ro:Option Nat} {ops:Array Oper}
def Ju0 (o:Oper):Bool:=o.guard.isNone && match o.op with
 | .move _=>true
 | .indexAddr ..=>true
 | .fieldAddr ..=>true
 | .load ..=>true
 | .binOp ..=>true
 | _=>false
def J5u (o:Oper):Bool:=o.guard.isNone && match o.op,o.dst with
 | .alloc _,some _=>true
 | _,_=>false
def J55 (o:Oper):Bool:=o.guard.isNone && match o.op,o.dst with
 | .store ..,none=>true
 | _,_=>false
def Jsd (s:St) (o:Oper):Prop:=∀ x∈o.op.operands.toList,farL (s.get x)=true
theorem J4f {ds:List (Option Tmp)} {s:St} {o:Oper} {K:L→Prop} (h:Ju0 o=true):YS X ds s o K=lq X.P s.regs s.get o.op K:=by
 obtain ⟨dst,op,ty,ps,af,g⟩:=o;cases g with
 | some g=>simp [Ju0] at h
 | none =>
  unfold YS lqc;cases op <;> first | rfl | (simp [Ju0] at h)
theorem Jtc {s:St} {dst:Option Tmp} {v:L} {d:Nat} {r:Reg} {l:L} (hv:farL v=true) (hne:∀ x,dst=some x→x≠d):(((s.newReg d r).put (some d) l).put dst v)=(((s.put dst v).newReg d r).put (some d) l):=by
 cases dst with
 | none=>rfl
 | some x =>
  have:=hne x rfl;simp only [St.put,St.newReg,List.map_set,Jtf hv];rw [List.set_comm _ _ this]
theorem J3h {s:St} {d:Nat} {r:Reg} {l:L} {x:Operand} (hx:x≠.tmp d) (hf:farL (s.get x)=true):((s.newReg d r).put (some d) l).get x=s.get x:=by
 rw [Jmw (fun e he=>by cases he;exact hx)];cases x with
 | tmp i =>
  simp only [St.get,St.newReg,List.getD_eq_getElem?_getD,List.getElem?_map] at hf ⊢;cases hi:s.tmps[i]? with
  | none=>rfl
  | some m =>
   rw [hi] at hf;simp only [Option.map_some,Option.getD_some] at hf ⊢;exact Jtf hf
 | _=>rfl
theorem Jwy {d:Nat} {z:Fz} {l:L} (h:farL l=true):L.freeze d z l=l:=by
 cases l <;> simp [farL] at h <;> rfl
theorem J11 {s:St} {d:Nat} {dst:Option Tmp} {v:L} (hv:farL v=true):(s.put dst v).freeze d=(s.freeze d).put dst v:=by
 cases dst with
 | none=>rfl
 | some x =>
  simp only [St.put,St.freeze,Dx];cases fzOf (Am d s.regs) with
  | none=>rfl
  | some z=>simp only [List.map_set,Jwy hv]
theorem J2f {s:St} {d:Nat} {y:Operand} (hf:farL (s.get y)=true):(s.freeze d).get y=s.get y:=by
 unfold St.freeze Dx;cases fzOf (Am d s.regs) with
 | none=>rfl
 | some z =>
 cases y with
 | tmp i =>
  simp only [St.get,List.getD_eq_getElem?_getD,List.getElem?_map] at hf ⊢;cases hi:s.tmps[i]? with
  | none=>rfl
  | some m =>
   rw [hi] at hf;simp only [Option.map_some,Option.getD_some] at hf ⊢;exact Jwy hf
 | _=>rfl
theorem Jug {s:St} {x:Operand} {dst:Option Tmp} {v:L} (hv:farL v=true) (hx:∀ d,dst=some d→x≠.tmp d):(s.put dst v).freezeOps [x]=(s.freezeOps [x]).put dst v:=by
 simp only [St.freezeOps,Jmw hx];cases s.get x <;> first | rfl | (simp only;split <;> first | exact J11 hv | rfl)
theorem Jud {s:St} {x y:Operand} (hf:farL (s.get y)=true):(s.freezeOps [x]).get y=s.get y:=by
 simp only [St.freezeOps];cases s.get x <;> first | rfl | (simp only;split <;> first | exact J2f hf | rfl)
theorem Jsv {s:St} {dst:Option Tmp} {v:L}:(s.put dst v).regs=s.regs:=by cases dst <;> rfl
theorem Jtp {s:St} {dst:Option Tmp} {v:L} {R:Regs}:({ (s.put dst v) with regs:=R }:St)=({ s with regs:=R }:St).put dst v:=by cases dst <;> rfl
theorem J12 {P:Program} {t:TypeId} {s:St} {a x:Operand} {dst:Option Tmp} {v:L} {K:St→Prop} (hv:farL v=true) (ha:∀ d,dst=some d→a≠.tmp d) (hx:∀ d,dst=some d→x≠.tmp d) (h:Nv P t (s.put dst v) a x K) :
  Nv P t s a x fun s'=>K (s'.put dst v)∧∀ y,farL (s.get y)=true→s'.get y=s.get y:=by
 unfold Nv at h ⊢;rw [Jmw ha,Jmw hx,Jsv] at h;split at h
 ·rename_i d i j hd;simp only;split at h
  ·obtain ⟨xs,h1,h2,h3,h4,h5,h6⟩:=h;refine ⟨xs,h1,h2,h3,h4,h5,?_,fun y _=>?_⟩
   ·rw [Jtp] at h6;exact h6
   ·cases y <;> rfl
  ·rw [Jug hv hx] at h;obtain ⟨xs,h1,ps,h2,e,h3,h4,h5,h6,h7,h8,h9⟩:=h;rw [Jmw hx] at h1;rw [Jsv] at h7 h9;rw [Jmw ha] at h8;refine ⟨xs,h1,ps,h2,e,h3,h4,h5,h6,h7,h8,?_,fun y hy=>?_⟩
   ·rw [Jtp] at h9;exact h9
   ·have:=Jud (x:=x) hy;cases y <;> exact this
  ·obtain ⟨xs,h1,e,h2,h3,h4,h5,h6⟩:=h;refine ⟨xs,h1,e,h2,h3,h4,h5,?_,fun y _=>?_⟩
   ·rw [Jtp] at h6;exact h6
   ·cases y <;> rfl
  ·exact h.elim
  ·exact h.elim
 ·exact h.elim
def Jsu (X:Cx) (ds:List (Option Tmp)) (ops:List Oper) (E:St→Prop):List Nat→St→Prop
 | [],s=>E s
 | i :: I,s=>match ops[i]? with
  | some o=>Jsd s o∧YS X ds s o fun l=>farL l=true∧Jsu X ds ops E I (s.put o.dst l)
  | none=>False
def takeAB (ops:Array Oper) (k:Nat):List Nat→Array Bool→Bool
 | [],_=>true
 | i :: I,listed=>(Region.ready .any ops listed).contains i && (Region.free .any ops listed i && (decide (i<k) && ((match ops[i]? with | some o=>Ju0 o | none=>false) && ((List.range ops.size).all (fun j=>decide (j<k) || (ancB .any ops ops.size i j || match ops[j]? with | some o=>J5u o || J55 o | none=>false)) && takeAB ops k I (listed.setIfInBounds i true)))))
theorem Jv9 {ds:List (Option Tmp)} {os:List Oper} {E E':St→Prop} (hE:∀ s,E s→E' s):∀ (I:List Nat) (s:St),Jsu X ds os E I s→Jsu X ds os E' I s
 | [],s,h=>hE s h
 | i :: I,s,h=>by
  simp only [Jsu] at h ⊢;split
  ·rename_i o ho;rw [ho] at h;exact ⟨h.1,Kr (fun l hl=>⟨hl.1,Jv9 hE I _ hl.2⟩) h.2⟩
  ·rename_i ho;rw [ho] at h;exact h
end
section
variable {X:Cx} {ds:List (Option Tmp)} {t:List L} {r:Regs} {E:St→Prop} {dst:Option Tmp} {ty:TypeId} {ps:String} {af:Array Edge} {g:Option (Nat×Bool)}
def YVar (X:Cx) (ds:List (Option Tmp)) (ops:List Oper) (i:Nat) (C:St→Prop) (s:St):Prop:=match ops[i]? with
 | some o=>Jsd s o∧YS X ds s o fun l=>farL l=true∧C (s.put o.dst l)
 | none=>False
def kfar (dst:Option Tmp) (C:St→Prop) (s:St) (l:L):Prop:=farL l=true∧C (s.put dst l)
theorem J6m {ops:List Oper}:Jsu X ds ops E [] ⟨t,r⟩=E ⟨t,r⟩:=(rfl)
theorem v_take {ops:List Oper} {i:Nat} {I:List Nat}:Jsu X ds ops E (i :: I) ⟨t,r⟩=YVar X ds ops i (Jsu X ds ops E I) ⟨t,r⟩:=(rfl)
theorem v_at0 {o:Oper} {ops:List Oper}:YVar X ds (o :: ops) 0 E ⟨t,r⟩=(Jsd ⟨t,r⟩ o∧YS X ds ⟨t,r⟩ o (kfar o.dst E ⟨t,r⟩)):=(rfl)
theorem v_atS {o:Oper} {ops:List Oper} {i:Nat}:YVar X ds (o :: ops) (i+1) E ⟨t,r⟩=YVar X ds ops i E ⟨t,r⟩:=(rfl)
theorem v_kp {x:PV}:kfar dst E ⟨t,r⟩ (.p x)=kput dst E ⟨t,r⟩ (.p x):=by simp [kfar,farL,kput]
theorem v_ke {cs:List PV}:kfar dst E ⟨t,r⟩ (.eptr cs)=kput dst E ⟨t,r⟩ (.eptr cs):=by simp [kfar,farL,kput]
theorem v_fp {x:PV}:(farL (.p x)=true)=True:=by simp [farL]
theorem v_fe {cs:List PV}:(farL (.eptr cs)=true)=True:=by simp [farL]
theorem v_move {x:Operand}:Jsd ⟨t,r⟩ ⟨dst,.move x,ty,ps,af,g⟩=(farL ((St.mk t r).get x)=true):=by simp [Jsd,Op.operands]
theorem v_ia {T:TypeId} {x y:Operand}:Jsd ⟨t,r⟩ ⟨dst,.indexAddr T x y,ty,ps,af,g⟩=(farL ((St.mk t r).get x)=true∧farL ((St.mk t r).get y)=true):=by simp [Jsd,Op.operands]
theorem v_ld {T:TypeId} {x:Operand}:Jsd ⟨t,r⟩ ⟨dst,.load T x,ty,ps,af,g⟩=(farL ((St.mk t r).get x)=true):=by simp [Jsd,Op.operands]
attribute [go_sem] J6m v_take v_at0 v_atS v_kp v_ke v_fp v_fe v_move v_ia v_ld
end
theorem Al.perm {X:Cx} {f:FuncId} {args:List L} {rs rs':Regs} {Post:L→Regs→Prop} (hp:rs'.Perm rs) (h:Al X f args rs Post):Al X f args rs' Post:=by
 refine ⟨h.1,fun β Im w vs hg hf=>?_⟩;have hmi:∀ x,x∈rs ↔ x∈rs':=fun x=>hp.symm.mem_iff
 have hf':Fit β w Im ⟨args,rs⟩ ⟨vs⟩:={ size:=hf.size,tmps:=hf.tmps,im:=hf.im,regs:=fun d r hd=>hf.regs d r ((hmi _).1 hd),nodup:=((hp.map _).nodup_iff).1 hf.nodup,live:=fun d r loc hd hl=>hf.live d r loc ((hmi _).1 hd) hl,apart:=fun d r d' r' l1 l2 hd hd' hne h1 h2=>hf.apart d r d' r' l1 l2 ((hmi _).1 hd) ((hmi _).1 hd') hne h1 h2 }
 refine (h.2 β Im w vs hg hf').mono fun e w' ⟨v,m,q,β',Im',he,hP,hr,hc⟩=>⟨v,m,q,β',Im',he,hP,hr,?_⟩
 exact { hc with
  block:=fun k hk hno=>hc.block k hk fun d r loc hd hl=>hno d r loc ((hmi _).1 hd) hl
  imnew:=fun b hb=>by
   rcases hc.imnew b hb with h | h | ⟨d,r,loc,h1,h2⟩
   ·exact .inl h
   ·exact .inr (.inl h)
   ·exact .inr (.inr ⟨d,r,loc,(hmi _).1 h1,h2⟩)
  keys:=fun d r hd=>by
   rcases hc.keys d r hd with h | ⟨r0,h⟩
   ·exact .inl h
   ·exact .inr ⟨r0,(hmi _).1 h⟩
  regnew:=fun d r loc hd hl=>by
   rcases hc.regnew d r loc hd hl with h | ⟨d1,r1,loc1,h1,h2⟩
   ·exact .inl h
   ·exact .inr ⟨d1,r1,loc1,(hmi _).1 h1,h2⟩ }
section
variable {X:Cx} {ro:Option Nat} {md:Region.Mode} {ops:Array Oper}
def Jwf (X:Cx) (md:Region.Mode) (ops:Array Oper) (q:Nat→Bool) (K:St→Prop):Nat→Array Bool→St→Prop
 | 0,listed,s=>Region.ready md ops listed=[]∧K s
 | fuel+1,listed,s=>(Region.ready md ops listed=[]→K s) ∧
  ∀
   i∈Region.ready md ops listed,∀ o,ops[i]? = some o →
   (q i=true→YS X (ops.toList.map (·.dst)) s o fun l=>Jwf X md ops q K fuel (listed.setIfInBounds i true) (s.put o.dst l)) ∧
   (q i=false→∃ C:St→Prop,lAt X (ops.toList.map (·.dst)) ops.toList i C s∧∀ s',C s'→Jwf X md ops q K fuel (listed.setIfInBounds i true) s')
theorem Jso {Γ:Base} {q:Nat→Bool} {K:St→Prop} {Q:Exit→Act→World→Prop} {n:Nat} (hG:Γ.G=X.G) (hQ:∀ s a w,K s→RR Γ s a w→Q .normal a w):∀ (fuel:Nat) (listed:Array Bool) (s:St) (a:Act) (w:World),RR Γ s a w →
  Jwf X md ops q K fuel listed s→wpAnyIn (F0 ro) n X.P md ops Q fuel listed a w
 | 0,_,s,a,w,h,hl=>⟨hl.1,hQ s a w hl.2 h⟩
 | fuel+1,_,s,a,w,h,hl=>⟨fun h0=>hQ s a w (hl.1 h0) h,fun i hi=>by
   obtain ⟨_,o,ho,_⟩:=mem_ready.1 hi;cases hk:q i with
   | true =>
    exact Zy ho hG h ((hl.2 i hi o ho).1 hk) fun l a' w' h1 h2=>Jso hG hQ fuel _ _ a' w' h2 h1
   | false =>
    obtain ⟨C,hA,hC⟩:=(hl.2 i hi o ho).2 hk;exact wpOpIn_mono (fun a' w' ⟨s',hs,hr'⟩=>Jso hG hQ fuel _ s' a' w' hr' (hC s' hs)) (Uc hG h hA)⟩
def takeQ (md:Region.Mode) (ops:Array Oper) (q:Nat→Bool):List Nat→Array Bool→Bool
 | [],_=>true
 | i :: I,listed=>(Region.ready md ops listed).contains i && (Region.free md ops listed i && (q i && ((List.range ops.size).all (fun j=>q j || ancB md ops ops.size i j) && takeQ md ops q I (listed.setIfInBounds i true))))
def Jrz (X:Cx) (ds:List (Option Tmp)) (ops:List Oper) (q:Nat→Bool) (K:St→Prop):Ord→St→Prop
 | .leaf,s=>K s
 | .nil,_=>True
 | .bad,_=>False
 | .node i sub next,s=>(if q i=true then YSAt X ds ops i (Jrz X ds ops q K sub) s else lAt X ds ops i (Jrz X ds ops q K sub) s)∧Jrz X ds ops q K next s
theorem Jxk {q:Nat→Bool} {K:St→Prop} {f:Nat} {listed:Array Bool} {s:St}:∀ (is:List Nat),Jrz X (ops.toList.map (·.dst)) ops.toList q K (is.foldr (fun i acc=>.node i (P6 ops f (listed.setIfInBounds i true)) acc) .nil) s →
  ∀ i∈is,(if q i=true then YSAt X (ops.toList.map (·.dst)) ops.toList i (Jrz X (ops.toList.map (·.dst)) ops.toList q K (P6 ops f (listed.setIfInBounds i true))) s else lAt X (ops.toList.map (·.dst)) ops.toList i (Jrz X (ops.toList.map (·.dst)) ops.toList q K (P6 ops f (listed.setIfInBounds i true))) s)
 | [],_,i,hi=>by cases hi
 | j :: is,h,i,hi=>by
  simp only [List.foldr_cons,Jrz] at h;rcases List.mem_cons.1 hi with rfl | hi
  ·exact h.1
  ·exact Jxk is h.2 i hi
theorem Jth {q:Nat→Bool} {K:St→Prop}:∀ (f:Nat) (listed:Array Bool) (s:St),Jrz X (ops.toList.map (·.dst)) ops.toList q K (P6 ops f listed) s→Jwf X .any ops q K f listed s
 | 0,listed,s,h=>by
  unfold P6 at h;split at h
  ·rename_i h0;exact ⟨h0,h⟩
  ·exact h.elim
 | f+1,listed,s,h=>by
  unfold P6 at h;split at h
  ·rename_i h0;exact ⟨fun _=>h,fun i hi=>by rw [h0] at hi;cases hi⟩
  ·rename_i h0;refine ⟨fun h1=>absurd h1 h0,fun i hi o ho=>?_⟩;have:=Jxk _ h i hi;refine ⟨fun hk=>?_,fun hk=>?_⟩
   ·rw [if_pos hk] at this;unfold YSAt at this;rw [Array.getElem?_toList,ho] at this;exact Kr (fun l hl=>Jth f _ _ hl) this
   ·rw [if_neg (by rw [hk];decide)] at this;exact ⟨_,this,fun s' hs=>Jth f _ _ hs⟩
end
def qi (k a b i:Nat):Bool:=decide (i<k) || (!decide (i<a) && decide (i<b))
section
variable {X:Cx} {ds:List (Option Tmp)} {t:List L} {r:Regs} {E:St→Prop}
theorem z_leaf {ops:List Oper} {q:Nat→Bool}:Jrz X ds ops q E .leaf ⟨t,r⟩=E ⟨t,r⟩:=(rfl)
theorem z_nil {ops:List Oper} {q:Nat→Bool}:Jrz X ds ops q E .nil ⟨t,r⟩=True:=(rfl)
theorem z_node {ops:List Oper} {k a b i:Nat} {sub next:Ord}:Jrz X ds ops (qi k a b) E (.node i sub next) ⟨t,r⟩=((if i<k then YSAt X ds ops i (Jrz X ds ops (qi k a b) E sub) ⟨t,r⟩ else if i<a then lAt X ds ops i (Jrz X ds ops (qi k a b) E sub) ⟨t,r⟩ else if i<b then YSAt X ds ops i (Jrz X ds ops (qi k a b) E sub) ⟨t,r⟩ else lAt X ds ops i (Jrz X ds ops (qi k a b) E sub) ⟨t,r⟩)∧Jrz X ds ops (qi k a b) E next ⟨t,r⟩):=by
 rw [Jrz];by_cases h1:i<k
 ·rw [if_pos (by simp [qi,h1]),if_pos h1]
 ·rw [if_neg h1];by_cases h2:i<a
  ·rw [if_neg (by simp [qi,h1,h2]),if_pos h2]
  ·rw [if_neg h2];by_cases h3:i<b
   ·rw [if_pos (by simp [qi,h2,h3]),if_pos h3]
   ·rw [if_neg (by simp [qi,h1,h3]),if_neg h3]
def qj (a b c e i:Nat):Bool:=(!decide (i<a) && decide (i<b)) || (!decide (i<c) && decide (i<e))
attribute [go_sem] z_leaf z_nil z_node
end
section
variable {X:Cx} {ro:Option Nat} {ops:Array Oper}
def J6o (o:Oper):Bool:=o.guard.isNone && match o.op,o.dst with
 | .buildSlice _ 0 parts,some _=>parts.toList.isEmpty
 | _,_=>false
def Jto (o:Oper):Bool:=Ju0 o || (o.guard.isNone && match o.op with
 | .slice ..=>true
 | .call { callee:=.builtin .len,.. }=>true
 | .extract ..=>true
 | _=>false)
theorem J3f {ds:List (Option Tmp)} {s:St} {o:Oper} {K:L→Prop} (h:Jto o=true):YS X ds s o K=lq X.P s.regs s.get o.op K:=by
 unfold Jto at h;rw [Bool.or_eq_true] at h;rcases h with h | h
 ·exact J4f h
 ·obtain ⟨dst,op,ty,ps,af,g⟩:=o;cases g with
  | some g=>simp at h
  | none =>
   unfold YS lqc;cases op with
   | call c =>
    obtain ⟨callee,args,ts⟩:=c;cases callee with
    | builtin b=>rfl
    | value f=>simp at h
    | _=>first | rfl | (simp at h)
   | _=>first | rfl | (simp at h)
def takeAQ (ops:Array Oper) (q:Nat→Bool):List Nat→Array Bool→Bool
 | [],_=>true
 | i :: I,listed=>(Region.ready .any ops listed).contains i && (Region.free .any ops listed i && (q i && ((match ops[i]? with | some o=>Jto o | none=>false) && ((List.range ops.size).all (fun j=>q j || (ancB .any ops ops.size i j || match ops[j]? with | some o=>J6o o | none=>false)) && takeAQ ops q I (listed.setIfInBounds i true)))))
end
section
variable {X:Cx} {r:Regs} {t:List L} {dst:Option Tmp} {ty:TypeId} {ps:String} {af:Array Edge} {g:Option (Nat×Bool)}
def farB (s:St):Option Operand→Prop
 | some x=>farL (s.get x)=true
 | none=>True
theorem J5v {T:TypeId} {x:Operand} {lo hi mx:Option Operand}:Jsd ⟨t,r⟩ ⟨dst,.slice T x lo hi mx,ty,ps,af,g⟩=(farL ((St.mk t r).get x)=true∧farB ⟨t,r⟩ lo∧farB ⟨t,r⟩ hi∧farB ⟨t,r⟩ mx):=by
 cases lo <;> cases hi <;> cases mx <;> simp [Jsd,Op.operands,farB]
theorem v_bN:farB ⟨t,r⟩ none=True:=(rfl)
theorem v_bS {x:Operand}:farB ⟨t,r⟩ (some x)=(farL ((St.mk t r).get x)=true):=(rfl)
attribute [go_sem] J5v v_bN v_bS
end
end Go.LX
