/- Types, the document's answer: a type, made of its parts. -/
import Derived.Test.YtpaiiekgdgjjnaaGreatDoorLxY
import Derived.Test.YtpaiiekgdgjjnaaGreatDoorLxV
import Derived.Test.YtpaiiekgdgjjnaaGreatDoorLxN
import Derived.Test.YtpaiiekgdgjjnaaGreatDoorLxW
import Derived.Test.YtpaiiekgdgjjnaaGreatDoorLxR
set_option linter.unusedSimpArgs false
set_option linter.unusedVariables false
set_option linter.unusedSectionVars false
set_option linter.unnecessarySimpa false
set_option maxRecDepth 100000
set_option maxHeartbeats 2000000
namespace Go.LX
open Go Go.RowKit Go.Proofs
attribute [local irreducible] Al SWP Bi
def nameR (nm:List UInt8):List YRow→List YRow
 | []=>[]
 | r :: rs=>⟨r.kind,r.many,nm,r.s,r.n,r.c⟩ :: rs
def J9k (ns:List (List UInt8)) (ls:List (List YRow)) (i:Nat):List YRow:=if i<ns.length then nameR (ns.getD i []) (ls.getD i []) else ls.getD i []
def Jr7 (ns:List (List UInt8)) (ls:List (List YRow)):Nat→List YRow
 | 0=>[]
 | i+1=>Jr7 ns ls i ++ J9k ns ls i
def J7m (y:YRow) (ns:List (List UInt8)) (ls:List (List YRow)):List YRow:=⟨y.kind,ls.length,y.name,y.s,y.n,y.c⟩ :: Jr7 ns ls ls.length
def Jwf (ls:List (List YRow)):List (List PV):=ls.map fun v=>[.sl (rowL v)]
def J9a (ns:List (List UInt8)):List (List PV):=ns.map fun s=>[.str s]
@[simp] theorem Jwj (ls:List (List YRow)):(Jwf ls).length=ls.length:=by simp [Jwf]
@[simp] theorem namesL_len (ns:List (List UInt8)):(J9a ns).length=ns.length:=by simp [J9a]
theorem J6h {ls:List (List YRow)} {i:Nat} {v:List YRow} (h:ls[i]? = some v):(Jwf ls)[i]? = some [.sl (rowL v)]:=by simp [Jwf,h]
theorem d_Made0 (y:YRow) (ls:List (List YRow)) (hl:ls.length≤10000) (hs:∀ i,i≤ls.length→(Jr7 [] ls i).length≤900000) (he:∀ v∈ls,v.length≤900000):Det cx 22 [.p (.agg [.int .i64 y.kind,.int .i64 y.many,.str y.name,.str y.s,.int .i64 y.n,.int .i64 y.c.kind,.int .i64 y.c.many,.str y.c.name,.str y.c.s,.bool y.c.neg,.int .i64 y.c.e]),.p .snil,.p (.sl (Jwf ls))] [] (.p (.sl (rowL (J7m y [] ls)))) []:=by
 generalize hhd:(⟨y.kind,ls.length,y.name,y.s,y.n,y.c⟩:YRow)=hd;have hst:rowL (hd :: Jr7 [] ls 0)=[[.int .i64 y.kind,.int .i64 ls.length,.str y.name,.str y.s,.int .i64 y.n,.int .i64 y.c.kind,.int .i64 y.c.many,.str y.c.name,.str y.c.s,.bool y.c.neg,.int .i64 y.c.e]]:=by rw [← hhd];rfl
 have hst0:(Jr7 [] ls 0).length=0:=rfl;have hmd:J7m y [] ls=hd :: Jr7 [] ls ls.length:=by rw [← hhd];rfl
 rw [hmd];(refine bgo Tryz.func22 ?_;simp only [go_sem,simprocAttr,Jwj]);refine SWP.loop (fun i:Nat=>⟨Ba 56 [(1,.p .snil),(2,.p (.sl (Jwf ls))),(7,.own 15 0 ((Jr7 [] ls i).length+1)),(8,.p (.int .i64 i))],[(15,.row 31 11 (rowL (hd :: Jr7 [] ls i)))]⟩) (fun i=>i≤ls.length) (fun i=>ls.length - i) 0 (by rw [hst,hst0];exact Jqb) (Nat.zero_le _) ?_;rintro i hi;have hln:=hs i hi;have hpl:(rowL (hd :: Jr7 [] ls i)).length=(Jr7 [] ls i).length+1:=by rw [Jqi];rfl
 have hle0:((Jr7 [] ls i).length+1≤(Jr7 [] ls i).length+1)=True:=eq_true (Nat.le_refl _);by_cases hlt:i<ls.length
 ·have c1:((i:Int)<(ls.length:Int))=True:=eq_true omg;obtain ⟨v,hq⟩:∃ v,ls[i]? = some v:=⟨_,List.getElem?_eq_getElem hlt⟩
  have hg:=J6h hq;have hv:=he v (List.mem_of_getElem? hq);have w1:IntKind.i64.wrap ((i:Int)+1)=((i+1:Nat):Int):=by rw [Aa omg omg];omega
  have c0:((i:Int)<0)=False:=eq_false omg;have hstep:Jr7 [] ls (i+1)=Jr7 [] ls i ++ v:=by
   rw [Jr7,J9k,if_neg sm];simp [List.getD_eq_getElem?_getD,hq]
  have e1:rowL (hd :: (Jr7 [] ls i ++ v))=rowL (hd :: Jr7 [] ls i) ++ rowL v:=by rw [← J34];rfl
  have e2:(Jr7 [] ls i ++ v).length+1=(Jr7 [] ls i).length+1+v.length:=by rw [List.length_append];omega
  (refine lws ?_;simp only [go_sem,simprocAttr,Jwj,c1,c0,hg,hpl,w1,Jqi]);(repeat' (first | (refine And.intro (by first | (simp;done)|(simp;omega)|(intro q hq;exact Jun _ q hq)) ?_)|(refine Jqe ?_) | fail));refine ⟨i+1,by omega,by omega,?_⟩;refine (B1 [(29,15)] _ sm).trans ?_;simp only [go_sem,simprocAttr];rw [hstep,e1,e2];exact Jqb
 ·have hil:i=ls.length:=by omega
  subst hil;have c1:((ls.length:Int)<(ls.length:Int))=False:=eq_false omg;have htk:(rowL (hd :: Jr7 [] ls ls.length)).take ((Jr7 [] ls ls.length).length+1)=rowL (hd :: Jr7 [] ls ls.length):=List.take_of_length_le (by rw [hpl];exact Nat.le_refl _);(refine lws ?_;simp only [go_sem,simprocAttr,Jwj,c1,hpl,hle0,htk])
  skip
def rfL:List RKT→RF
 | []=>.nil
 | p :: l=>.cons p.1 p.2 (rfL l)
theorem J0i:∀ l:List RKT,(rfL l).list=l
 | []=>rfl
 | p :: l=>by rw [rfL,RF.list,J0i l]
theorem J2x:∀ l:List RKT,(rfL l).len=l.length
 | []=>rfl
 | p :: l=>by rw [rfL,Jr3,J2x l];rfl
theorem Jvi:∀ l:List RKT,(rfL l).enc=l.flatMap fun p=>p.2.enc p.1
 | []=>Jq2
 | p :: l=>by rw [rfL,Jqg,Jvi l];rfl
theorem nameR_enc (nm:List UInt8) (t:RT):nameR nm (t.enc [])=t.enc nm:=by
 cases t with
 | mk k s n c kids=>rw [Jqo,Jqo];rfl
theorem Jy8 {l:List RKT} (hn:∀ p∈l,p.1=[]):∀ i,i≤l.length→Jr7 [] (l.map fun p=>p.2.enc []) i=(rfL (l.take i)).enc
 | 0,_=>by rw [List.take_zero];exact Jq2.symm
 | i+1,h=>by
  obtain ⟨p,hp⟩:∃ p,l[i]? = some p:=⟨_,List.getElem?_eq_getElem omg⟩
  rw [Jr7,Jy8 hn i omg,Jvi,Jvi,List.take_add_one,hp,List.flatMap_append,J9k,if_neg sm];simp [List.getD_eq_getElem?_getD,hp,hn p (List.mem_of_getElem? hp)]
theorem J9g (k m:Int) (s:List UInt8) (n:Int) (c:Node) {l:List RKT} (hn:∀ p∈l,p.1=[]):J7m ⟨k,m,[],s,n,c⟩ [] (l.map fun p=>p.2.enc [])=(RT.mk k s n c (rfL l)).enc []:=by
 rw [Jqo,J2x,J7m,List.length_map,Jy8 hn l.length (Nat.le_refl _),List.take_length]
theorem J31 (l:List RKT) (i:Nat):(rfL (l.take i)).enc.length≤(rfL l).enc.length:=by
 rw [Jvi,Jvi]
 conv=>rhs;rw [← List.take_append_drop i l,List.flatMap_append,List.length_append]
 omega
def Js1 (ns:List (List UInt8)) (t:RT):List RKT:=ns.map fun nm=>(nm,t)
theorem Jxu (ns:List (List UInt8)) (t:RT):(rfL (Js1 ns t)).enc.length=ns.length * (t.enc []).length:=by
 induction ns with
 | nil=>simp [Js1,rfL,Jq2]
 | cons a ns ih =>
  rw [Js1,List.map_cons,rfL,Jqg,List.length_append,J6v t a];unfold Js1 at ih;rw [ih,List.length_cons,Nat.succ_mul];omega
theorem J9t {ns:List (List UInt8)} {t:RT} (h:okR t):okRF (rfL (Js1 ns t)):=by
 rw [Jug,J0i];intro p hp;obtain ⟨nm,_,rfl⟩:=List.mem_map.1 hp;exact h
theorem J8w {ns:List (List UInt8)} {t:RT} (h:SFit t) (k:Int) (n:Int):SFit (.mk k [] n Jrp (rfL (Js1 ns t))):=by
 intro r hr;rw [Jqo,Jvi] at hr;rcases List.mem_cons.1 hr with rfl | hr
 ·simp
 ·obtain ⟨p,hp,hr⟩:=List.mem_flatMap.1 hr;obtain ⟨nm,_,rfl⟩:=List.mem_map.1 hp;simp only at hr;obtain ⟨k,s,n,c,kids⟩:=t;have h2:=h;unfold SFit at h2;rw [Jqo] at hr h2;rcases List.mem_cons.1 hr with rfl | hr
  ·exact h2 ⟨k,kids.len,[],s,n,c⟩ List.mem_cons_self
  ·exact h2 _ (List.mem_cons_of_mem _ hr)
theorem J06 {t:RT} (ht:okR t) (h9:t.kind≠9) (k:Int) (m:Nat) (hk:(k=4∨((k=3∨k=5∨k=6)∧m=1))):okR (.mk k [] 0 Jrp (rfL (Js1 (List.replicate m []) t))):=by
 rw [Jt9,J0i,J2x];refine ⟨?_,⟨fun p hp=>?_,fun h=>by omega⟩,fun h=>by omega,J9t ht⟩
 ·unfold Jri;rcases hk with rfl | ⟨rfl | rfl | rfl,rfl⟩ <;> simp [Js1]
 ·obtain ⟨nm,hnm,rfl⟩:=List.mem_map.1 hp;have:=List.eq_of_mem_replicate hnm;subst this;exact ⟨⟨fun h=>absurd h h9,fun h=>by omega⟩,fun _=>rfl,fun h=>by omega⟩
theorem tup_all (P:Tree→Bool):∀ l:List KT,tupS (List.replicate l.length P) l=allP P l
 | []=>rfl
 | q :: l=>by
  rw [List.length_cons,List.replicate_succ,tupS,tup_all P l];rfl
theorem J86 (k:Int) (t:RT) (ht:(t.enc []).length≤1000):Det cx 22 [.p (.agg [.int .i64 k,.int .i64 0,.str [],.str [],.int .i64 0,.int .i64 0,.int .i64 0,.str [],.str [],.bool false,.int .i64 0]),.p .snil,.p (.sl [[.sl (rowL (t.enc []))]])] [] (.p (.sl (rowL ((RT.mk k [] 0 Jrp (rfL (Js1 [[]] t))).enc [])))) []:=by
 have h:=d_Made0 ⟨k,0,[],[],0,Jrp⟩ [t.enc []] sm (fun i hi=>by
  have h2:=Jy8 (l:=Js1 [[]] t) (fun p hp=>by simp [Js1] at hp;rw [hp]) i (by simpa [Js1] using hi);have h1:(Js1 [[]] t).map (fun p=>p.2.enc [])=[t.enc []]:=rfl;rw [h1] at h2;rw [h2];have h3:=J31 (Js1 [[]] t) i;rw [Jxu] at h3;simp at h3;omega) (fun v hv=>by simp at hv;subst hv;omega)
 have hm:=J9g k 0 [] 0 Jrp (l:=Js1 [[]] t) (fun p hp=>by simp [Js1] at hp;rw [hp]);have h1:(Js1 [[]] t).map (fun p=>p.2.enc [])=[t.enc []]:=rfl;rw [h1] at hm;rw [hm] at h;exact h
@[simp] theorem typesL_nil:Jwf []=[]:=rfl
theorem Jvu {f:Forest} (h:(f.len:Int)=0):f=.nil:=by
 cases f with
 | nil=>rfl
 | cons a t r=>rw [Forest.len] at h;omega
def nilT:Tree:=.mk 0 [] false 0 .nil
def Jqz (ks:List Tree) (i:Nat):Tree:=ks.getD i nilT
def ltB (ks:List Tree) (i j:Nat):Bool:=decide (cmpT (Jqz ks i) (Jqz ks j)<0∨cmpT (Jqz ks i) (Jqz ks j)=0∧i<j)
def okK (ks:List Tree):Prop:=∀ t∈ks,okT t
def insI (ks:List Tree) (i:Nat):List Nat→List Nat
 | []=>[i]
 | j :: l=>if ltB ks j i=true then j :: insI ks i l else i :: j :: l
def Jt5 (ks:List Tree):Nat→List Nat
 | 0=>[]
 | n+1=>insI ks n (Jt5 ks n)
def Jql (l:List Tree) (S:List Nat):List Tree:=S.map fun i=>Jqz l i
def Ju8 (ks:List Tree) (st:List (List Nat)×List Nat) (a:Nat):List (List Nat)×List Nat :=
 if st.2≠[]∧cmpT (Jqz ks a) (Jqz ks (st.2.headD 0))≠0 then (st.1 ++ [st.2],[a]) else (st.1,st.2 ++ [a])
def Jrz (ks:List Tree) (l:List Nat):List (List Nat)×List Nat:=l.foldl (Ju8 ks) ([],[])
def Jq6 (st:List (List Nat)×List Nat):List (List Nat):=if st.2=[] then st.1 else st.1 ++ [st.2]
def natL (S:List Nat):List (List PV):=S.map fun (i:Nat)=>[.int .i64 (i:Int)]
@[simp] theorem Jst (S:List Nat):(natL S).length=S.length:=by simp [natL]
theorem Jvs (a b:List Tree):Jqm (a ++ b)=Jqm a ++ Jqm b:=by simp [Jqm]
@[simp] theorem J7x:Jqm []=[]:=rfl
@[simp] theorem natL_nil:natL []=[]:=rfl
theorem Jy5 (l:List Tree) (S:List Nat):(Jql l S).length=S.length:=by simp [Jql]
def Jrv (o:List (List Nat)):List (List PV):=o.map fun g=>[.sl (natL g)]
@[simp] theorem groupL_nil:Jrv []=[]:=rfl
@[simp] theorem Jtr (o:List (List Nat)):(Jrv o).length=o.length:=by simp [Jrv]
theorem J01:valL (nilT.enc [])=[[.int .i64 0,.int .i64 0,.str [],.str [],.bool false,.int .i64 0]]:=by unfold nilT;rw [A6,Bl];rfl
theorem Jzp:(nilT.enc []).length=1:=by unfold nilT;rw [A6,Bl];rfl
theorem Jw9:Det cx 113 [] [] (.p (.sl (valL (nilT.enc [])))) []:=by
 rw [J01];(refine bgo Tryz.func113 ?_;simp only [go_sem,simprocAttr])
 skip
def unT (l:List Tree):List KT:=l.map fun t=>([],t)
def J90 (l:List Tree):Tree:=.mk 5 [] false 0 (A1 (unT l))
def Jqc (t:Tree):List Tree:=t.kids.list.map (·.2)
theorem Jrx (l:List Tree):Jqc (J90 l)=l:=by
 unfold Jqc J90 Tree.kids unT;rw [Hd,List.map_map];exact List.map_id' l
theorem list_ok {l:List Tree} (h:okK l):okT (J90 l):=by
 unfold J90;rw [Lu,Ca,Hd,Jdo,Hd];have hn:∀ p∈unT l,p.1=[]:=fun p hp=>by obtain ⟨t,_,rfl⟩:=List.mem_map.1 hp;rfl
 refine ⟨by simp [G3],⟨fun _=>hn,fun p hp=>?_,fun h=>by omega⟩,fun p hp=>?_⟩
 ·rw [hn p hp];rfl
 ·obtain ⟨t,ht,rfl⟩:=List.mem_map.1 hp;exact h t ht
theorem J7l {t:Tree} (ok:okT t):okK (Jqc t):=by
 intro x hx;obtain ⟨k,s,g,e,kids⟩:=t;obtain ⟨p,hp,rfl⟩:=List.mem_map.1 hx;exact Jut ok hp
theorem J2h {P:Tree→Bool} {l:List KT}:allP P l=true ↔ ∀ x∈l.map (·.2),P x=true:=by
 unfold allP;rw [List.all_eq_true,List.forall_mem_map]
theorem J2d (s:List UInt8) (l:List KT):Jrt s l=(l.map (·.2)).map (keyT s):=by
 unfold Jrt;rw [List.map_map];rfl
theorem J70 {a b:Tree}:Jv4 a b=true ↔ a=b:=by
 unfold Jv4;rw [decide_eq_true_eq];exact ⟨fun h=>(Jmz h).2,fun h=>by rw [h]⟩
instance (v:Tree):Decidable (v.kind=5∧∀ x∈Jqc v,x.kind=5):=inferInstance
def strT (s:List UInt8):Tree:=.mk 4 s false 0 .nil
def J9y (key x:Tree):Tree:=.mk 6 [] false 0 (.cons sKey key (.cons sVal x .nil))
def numV (n:Nat):Tree:=if n=0 then .mk 3 [] false 0 .nil else .mk 3 (Jr9 (Lib.decDigits n)) false (((Lib.decDigits n).length - (Jr9 (Lib.decDigits n)).length:Nat):Int) .nil
def J9x (l:List KT):List Tree:=l.map fun p=>J9y (strT p.1) p.2
def J9z:Nat→List KT→List Tree
 | _,[]=>[]
 | i,p :: l=>J9y (numV i) p.2 :: J9z (i+1) l
def toE (v:Tree):Except Nat Tree:=if v.kind=6 then .ok (J90 (J9x v.kids.list)) else if v.kind=5 then .ok (J90 (J9z 0 v.kids.list)) else .error 5
def entR:Tree→Option (List UInt8×Tree)
 | .mk k _ _ _ kids=>if k=6 then (match Ch sKey kids.list with
  | some (.mk k' s' _ _ _)=>if k'=4 then some (s',(Ch sVal kids.list).getD nilT) else none
  | none=>none) else none
theorem Kaa {k:Int} {s:List UInt8} {g:Bool} {e:Int} {kids:Forest}:entR (.mk k s g e kids)=if k=6 then (match Ch sKey kids.list with
  | some (.mk k' s' _ _ _)=>if k'=4 then some (s',(Ch sVal kids.list).getD nilT) else none
  | none=>none) else none:=rfl
def J93:List Tree→List KT→Option (List KT)
 | [],out=>some out
 | t :: l,out=>match entR t with
  | none=>none
  | some p=>J93 l (putL p.1 p.2 (A8 p.1 out))
def J96 (v:Tree):Except Nat Tree:=if v.kind=5 then (match J93 (Jqc v) [] with
 | some l=>.ok (nd 6 l)
 | none=>.error 5) else .error 5
theorem Ka2 (k:List UInt8) (x:Tree):entK (J9y (strT k) x)=some (k,x):=by
 unfold J9y strT;rw [Juj];have h1:sVal≠sKey:=by decide
 simp [Forest.list,Forest.len,Ch,h1.symm]
theorem entR_of {t:Tree} {p:List UInt8×Tree} (h:entK t=some p):entR t=some p:=by
 obtain ⟨k,s,g,e,kids⟩:=t;rw [Juj] at h;rw [Kaa];split at h
 ·rename_i hk;rw [if_pos hk.1];split at h
  ·rename_i h1 h2;rw [h1];split at h
   ·rename_i h4;cases h;simp only [h4,if_true,h2,Option.getD_some]
   ·cases h
  ·cases h
 ·cases h
theorem Kbx {α:Type} {l:List α} (h:l.length=2):∃ a b,l=[a,b]:=by
 match l,h with
 | [a,b],_=>exact ⟨a,b,rfl⟩
theorem Ka3 {t:Tree} (ok:okT t) {p:List UInt8×Tree} (h:entK t=some p):t=J9y (strT p.1) p.2:=by
 obtain ⟨k,s,g,e,kids⟩:=t;rw [Juj] at h;split at h
 ·rename_i hk;obtain ⟨rfl,hl⟩:=hk;obtain ⟨h1,h2,h3⟩:=Lu.1 ok;simp [G3] at h1;obtain ⟨rfl,rfl,rfl⟩:=h1;split at h
  ·rename_i k' s' g' e' kids' x f1 f2;split at h
   ·rename_i h4;subst h4;cases h;obtain ⟨p1,m1,e1,n1⟩:=H2 f1;obtain ⟨p2,m2,e2,n2⟩:=H2 f2;have ok1:=Jdo.1 h3 p1 m1;rw [e1] at ok1;obtain ⟨q1,_,_⟩:=Lu.1 ok1;simp [G3] at q1;obtain ⟨_,q2,rfl,rfl⟩:=q1;have hk':=Jvu (by omega:(kids'.len:Int)=0);subst hk';obtain ⟨a,b,hab⟩:=Kbx (show kids.list.length=2 by rw [Jqf];exact hl);have hr:=h2.2.2 rfl;rw [hab] at m1 m2 hr;have hr2:Op.bytesLess a.1 b.1=true:=(List.pairwise_cons.1 hr).1 b List.mem_cons_self;have hlt:Op.bytesLess sVal sKey=false:=by decide
    have hne:sVal≠sKey:=by decide
    simp only [List.mem_cons,List.not_mem_nil,or_false] at m1 m2;have key:p1=a∧p2=b:=by
     rcases m1 with rfl | rfl
     ·rcases m2 with rfl | rfl
      ·exact absurd (n2.symm.trans n1) hne
      ·exact ⟨rfl,rfl⟩
     ·rcases m2 with rfl | rfl
      ·rw [n1,n2,hlt] at hr2;cases hr2
      ·exact absurd (n2.symm.trans n1) hne
    obtain ⟨rfl,rfl⟩:=key;have hlist:kids.list=[(sKey,.mk 4 s' false 0 .nil),(sVal,x)]:=by rw [hab,← e1,← e2,← n1,← n2]
    have:kids=.cons sKey (.mk 4 s' false 0 .nil) (.cons sVal x .nil):=by rw [← G1 kids,hlist];rfl
    rw [this];rfl
   ·cases h
  ·cases h
 ·cases h
theorem Ka6 {s:List UInt8} {n:Int} {c:Node} {q:RKT} {v:Tree}:inTy (.mk 6 s n c (.cons q.1 q.2 .nil)) v=true ↔ v.kind=5∧entS (inTy q.2) none v.kids.list=true:=by
 rw [Jvo,Ju0,Jy1];unfold inK Jt2;simp only [Int.reduceEq,reduceIte,Bool.and_eq_true,decide_eq_true_eq]
theorem Kag {s:List UInt8} {n:Int} {c:Node} {q:RKT} {v:Tree}:inTy (.mk 3 s n c (.cons q.1 q.2 .nil)) v=true ↔ v.kind=6∧∀ p∈v.kids.list,inTy q.2 p.2=true:=by
 rw [Jvo,Ju0,Jy1];unfold inK Jt2 allP;simp only [Int.reduceEq,reduceIte,Bool.and_eq_true,decide_eq_true_eq,List.all_eq_true]
theorem Kaz {P:Tree→Bool}:∀ {l:List KT} {last:Option (List UInt8)},Rise l→(∀ x,last=some x→∀ p∈l,Op.bytesLess x p.1=true)→(entS P last (unT (J9x l))=true ↔ ∀ p∈l,P p.2=true)
 | [],last,_,_=>by
  show entS P last []=true ↔ _;rw [entS];simp
 | p :: l,last,hr,hl=>by
  obtain ⟨h1,h2⟩:=List.pairwise_cons.1 hr;have e1:unT (J9x (p :: l))=([],J9y (strT p.1) p.2) :: unT (J9x l):=rfl;rw [e1,entS,Ka2];have ha:Jtg last p.1=true:=by
   cases last with
   | none=>rfl
   | some x=>exact hl x rfl p List.mem_cons_self
  simp only [ha,Bool.true_and,Bool.and_eq_true];rw [Kaz (l:=l) h2 (fun x hx q hq=>by cases hx;exact h1 q hq),List.forall_mem_cons]
theorem Kbp {q:RKT} {v:Tree} (ok:okT v) (hk:v.kind=6):∃ x,toE v=.ok x∧inTy (.mk 6 [] 0 Jrp (.cons q.1 q.2 .nil)) x=inTy (.mk 3 [] 0 Jrp (.cons q.1 q.2 .nil)) v∧x=J90 (J9x v.kids.list):=by
 refine ⟨_,by unfold toE;rw [if_pos hk],?_,rfl⟩;rw [Bool.eq_iff_iff,Ka6,Kag];obtain ⟨k,s,g,e,kids⟩:=v;have hk:k=6:=hk;subst hk;have hr:=(Lu.1 ok).2.1.2.2 rfl;have e1:(J90 (J9x (Tree.mk 6 s g e kids).kids.list)).kids.list=unT (J9x kids.list):=by unfold J90 Tree.kids;rw [Hd]
 rw [e1,Kaz hr (fun x hx=>by cases hx)];exact ⟨fun h=>⟨rfl,h.2⟩,fun h=>⟨rfl,h.2⟩⟩
theorem Kat {name:List UInt8}:∀ {l:List KT},(∀ p∈l,p.1≠name)→A8 name l=l
 | [],_=>rfl
 | p :: l,h=>by rw [A8,if_neg (h p List.mem_cons_self),Kat fun q hq=>h q (List.mem_cons_of_mem _ hq)]
theorem Ka5 {name:List UInt8} {t:Tree}:∀ {l:List KT},(∀ p∈l,Op.bytesLess p.1 name=true)→putL name t l=l ++ [(name,t)]
 | [],_=>rfl
 | p :: l,h=>by rw [putL,if_pos (h p List.mem_cons_self),Ka5 fun q hq=>h q (List.mem_cons_of_mem _ hq)];rfl
theorem Kaq {P:Tree→Bool}:∀ {l:List KT} {last:Option (List UInt8)} {out:List KT},(∀ q∈l,okT q.2∧q.1=[])→entS P last l=true→(∀ p∈out,∃ x,last=some x∧(p.1=x∨Op.bytesLess p.1 x=true)) →
  ∃ m,J93 (l.map (·.2)) out=some (out ++ m)∧l=unT (J9x m)∧(∀ p∈m,P p.2=true)∧Rise m∧(∀ x,last=some x→∀ p∈m,Op.bytesLess x p.1=true)∧∀ p∈m,okT p.2∧okT (strT p.1)
 | [],last,out,_,_,_=>⟨[],by rw [List.append_nil];rfl,rfl,by simp,.nil,by simp,by simp⟩
 | q :: l,last,out,hok,he,ho=>by
  rw [entS] at he;obtain ⟨okq,nq⟩:=hok q List.mem_cons_self;cases hk:entK q.2 with
  | none=>rw [hk] at he;cases he
  | some p =>
   rw [hk] at he;simp only [Bool.and_eq_true] at he;obtain ⟨h1,h2,h3⟩:=he;have hb:=Ka3 okq hk;have hlt:∀ r∈out,Op.bytesLess r.1 p.1=true:=fun r hr=>by
    obtain ⟨x,hx,h⟩:=ho r hr;subst hx;have h1:Op.bytesLess x p.1=true:=h1;rcases h with h | h
    ·rw [h];exact h1
    ·exact H8 h h1
   have hkp:A8 p.1 out=out:=Kat fun r hr=>Kbu (hlt r hr)
   obtain ⟨m,i1,i2,i3,i4,i5,i6⟩:=Kaq (l:=l) (last:=some p.1) (out:=out ++ [(p.1,p.2)]) (fun r hr=>hok r (List.mem_cons_of_mem _ hr)) h3 (fun r hr=>by
    rcases List.mem_append.1 hr with hr | hr
    ·exact ⟨_,rfl,.inr (hlt r hr)⟩
    ·simp only [List.mem_singleton] at hr;subst hr;exact ⟨_,rfl,.inl rfl⟩)
   have okk:okT p.2∧okT (strT p.1):=by
    rw [hb] at okq;unfold J9y at okq;have h4:=(Lu.1 okq).2.2;rw [Fs,Fs] at h4;exact ⟨h4.2.1,h4.1⟩
   refine ⟨p :: m,?_,?_,?_,?_,?_,?_⟩
   ·rw [List.map_cons,J93,entR_of hk];simp only;rw [hkp,Ka5 hlt,i1,List.append_assoc];rfl
   ·have:q=([],J9y (strT p.1) p.2):=Prod.ext nq hb;rw [this,i2];rfl
   ·exact List.forall_mem_cons.2 ⟨h2,i3⟩
   ·exact List.pairwise_cons.2 ⟨i5 p.1 rfl,i4⟩
   ·intro x hx r hr;subst hx;have h1:Op.bytesLess x p.1=true:=h1;rcases List.mem_cons.1 hr with rfl | hr
    ·exact h1
    ·exact H8 h1 (i5 p.1 rfl r hr)
   ·exact List.forall_mem_cons.2 ⟨okk,i6⟩
theorem Ka7 {q:RKT} {v:Tree} (ok:okT v) (h:inTy (.mk 6 [] 0 Jrp (.cons q.1 q.2 .nil)) v=true) :
  ∃ l,J96 v=.ok (nd 6 l)∧toE (nd 6 l)=.ok v∧inTy (.mk 3 [] 0 Jrp (.cons q.1 q.2 .nil)) (nd 6 l)=true∧v=J90 (J9x l)∧okT (nd 6 l):=by
 obtain ⟨hk,he⟩:=Ka6.1 h;obtain ⟨k,s,g,e,kids⟩:=v;have hk:k=5:=hk;subst hk;obtain ⟨h1,h2,h3⟩:=Lu.1 ok;simp [G3] at h1;obtain ⟨rfl,rfl,rfl⟩:=h1;obtain ⟨m,i1,i2,i3,i4,_,i6⟩:=Kaq (P:=inTy q.2) (l:=kids.list) (last:=none) (out:=[]) (fun r hr=>⟨Jdo.1 h3 r hr,h2.1 rfl r hr⟩) he sm;have hv:Tree.mk 5 [] false 0 kids=J90 (J9x m):=by
  unfold J90;rw [← i2,G1]
 have e2:(nd 6 m).kids.list=m:=by unfold nd Tree.kids;exact Hd m
 refine ⟨m,?_,?_,?_,hv,?_⟩
 ·unfold J96;rw [if_pos (show (Tree.mk 5 [] false 0 kids).kind=5 from rfl)];have:Jqc (.mk 5 [] false 0 kids)=kids.list.map (·.2):=rfl;rw [this,i1];rfl
 ·unfold toE;rw [if_pos (show (nd 6 m).kind=6 from rfl),e2,← hv]
 ·rw [Kag,e2];exact ⟨rfl,i3⟩
 ·unfold nd;rw [Lu,Hd,Jdo,Hd];refine ⟨by simp [G3],⟨fun h=>by omega,fun p hp=>?_,fun _=>i4⟩,fun p hp=>(i6 p hp).1⟩;have:=(i6 p hp).2;unfold strT at this;have:=(Lu.1 this).1;simp [G3] at this;exact this.1
def Jrd (l:List Tree):Nat:=(l.map fun t=>(t.enc []).length).sum
theorem Kbi:Jrd []=0:=rfl
theorem Js5 (t:Tree) (l:List Tree):Jrd (t :: l)=(t.enc []).length+Jrd l:=by simp [Jrd]
theorem Jw1 (a b:List Tree):Jrd (a ++ b)=Jrd a+Jrd b:=by simp [Jrd]
theorem J24:∀ l:List Tree,(A1 (unT l)).enc.length=Jrd l
 | []=>by
  rw [show A1 (unT [])=.nil from rfl,Bl];rfl
 | t :: l=>by
  rw [show A1 (unT (t :: l))=.cons [] t (A1 (unT l)) from rfl,A0,List.length_append,J24 l,Js5]
theorem Jvb (l:List Tree):((J90 l).enc []).length=Jrd l+1:=by
 unfold J90;rw [A6,List.length_cons,J24]
theorem J6p (l:List Tree):Jqm l=A4 (unT l):=by
 unfold Jqm A4 unT;rw [List.map_map];rfl
theorem Jxp (l:List KT):A4 l=Jqm (l.map (·.2)):=by
 unfold Jqm A4;rw [List.map_map];rfl
theorem J7b (l:List Tree):unn (unT l)=unT l:=by
 unfold unn unT;rw [List.map_map];rfl
theorem Jsr (t:Tree):Jrd (Jqc t)+1=(t.enc []).length:=by
 obtain ⟨k,s,g,e,kids⟩:=t;rw [A6,List.length_cons];have:∀ f:Forest,Jrd (f.list.map (·.2))=f.enc.length:=by
  intro f
  induction f using Forest.rec (motive_1:=fun _=>True) with
  | mk=>trivial
  | nil=>rw [Bl];rfl
  | cons nm t r _ ih=>rw [A0,List.length_append,Forest.list,List.map_cons,Js5,ih,G7 t nm]
 show Jrd (kids.list.map (·.2))+1=_;rw [this]
theorem Jtx:∀ l:List Tree,l.length≤Jrd l
 | []=>Nat.le_refl _
 | t :: l=>by
  have:=Jtx l;have:=Et t [];rw [Js5,List.length_cons];omega
theorem Jt1:∀ {l:List Tree} {t:Tree},t∈l→(t.enc []).length≤Jrd l
 | u :: l,t,h=>by
  rw [Js5];rcases List.mem_cons.1 h with rfl | h
  ·omega
  ·have:=Jt1 h;omega
theorem Jxc (l:List Tree) (h:Jrd l≤999999):Det cx 45 [.p (.sl (Jqm l))] [] (.p (.sl (valL ((J90 l).enc [])))) []:=by
 have hL:=Tt (unT l) (by rw [J7b,J24];exact h);rw [J7b,← J6p] at hL;exact hL
theorem row0 (v:Tree):∃ r:Nat→PV,(valL (v.enc []))[0]? = some [.int .i64 v.kind,r 0,r 1,r 2,r 3,r 4]:=by
 obtain ⟨k,s,g,e,kids⟩:=v;exact ⟨fun i=>([.int .i64 kids.len,.str [],.str s,.bool g,.int .i64 e]:List PV).getD i .snil,Cc [] k s g e kids⟩
def preK (us:List Tree):Except Nat (List Tree)→Except Nat (List Tree)
 | .ok ks=>.ok (us ++ ks)
 | .error e=>.error e
theorem Kau (key x:Tree) (h1:(key.enc []).length≤400000) (h2:(x.enc []).length≤400000):Det cx 158 [.p (.sl (valL (key.enc []))),.p (.sl (valL (x.enc [])))] [] (.p (.sl (valL ((J9y key x).enc [])))) []:=by
 have hlen:(A1 [(sKey,key),(sVal,x)]).enc.length=(key.enc []).length+(x.enc []).length:=by
  rw [show A1 [(sKey,key),(sVal,x)]=.cons sKey key (.cons sVal x .nil) from rfl,A0,A0,Bl,List.length_append,List.length_append,G7 key,G7 x];rfl
 have hO:=Zc [(sKey,key),(sVal,x)] omg (by intro p hp;simp only [List.mem_cons,List.not_mem_nil,or_false] at hp;rcases hp with rfl | rfl <;> simp [sKey,sVal]);have hok:M3 [(sKey,key),(sVal,x)]=true:=by
  unfold M3;rw [decide_eq_true_eq];refine ⟨?_,?_⟩
  ·intro p hp;simp only [List.mem_cons,List.not_mem_nil,or_false] at hp;rcases hp with rfl | rfl
   ·show valid sKey=true;decide
   ·show valid sVal=true;decide
  ·simp [sKey,sVal]
 have his:Lp [(sKey,key),(sVal,x)]=[(sKey,key),(sVal,x)]:=by
  have hlt:Op.bytesLess sVal sKey=false:=by decide
  have hlt2:Op.bytesLess sKey sVal=true:=by decide
  simp [Lp,putL,hlt,hlt2]
 rw [objR,hok,if_pos rfl,his] at hO;have e1:Bd [(sKey,key),(sVal,x)]=[[.str [107,101,121]],[.str [118,97,108,117,101]]]:=rfl;have e2:A4 [(sKey,key),(sVal,x)]=[[.sl (valL (key.enc []))],[.sl (valL (x.enc []))]]:=rfl;rw [e1,e2,show Tree.mk 6 [] false 0 (A1 [(sKey,key),(sVal,x)])=J9y key x from rfl] at hO;(refine bgo Tryz.func158 ?_;simp only [go_sem,simprocAttr]);(repeat' (first | ((refine Jqa (hO) ?_);simp only [go_sem,simprocAttr]) | fail))
theorem Kad:∀ (e:Nat) (a:List UInt8),Jr9 (a ++ List.replicate e 48)=Jr9 a
 | 0,a=>by simp
 | e+1,a=>by
  rw [List.replicate_succ',← List.append_assoc,Jym,if_pos rfl,Kad e a]
theorem Kaw {n:Nat} (h:n≠0):0<(Jr9 (Lib.decDigits n)).length:=by
 refine J0z _ _ rfl (List.length_pos_iff.2 (U6 n)) ?_;cases hd:Lib.decDigits n with
 | nil=>exact absurd hd (U6 n)
 | cons c r =>
  rw [Jy0];intro e;exact h (Jg0 n c r hd e).2
theorem Kai (n:Nat) (hn:n≤1000000):Det cx 157 [.p (.int .i64 n)] [] (.p (.sl (valL ((numV n).enc [])))) []:=by
 have hD:=Kbb n hn;have hlen:(Lib.decDigits n).length≤7:=Xk 6 n omg;by_cases h0:n=0
 ·subst h0;have e0:valL ((numV 0).enc [])=[[.int .i64 3,.int .i64 0,.str [],.str [],.bool false,.int .i64 0]]:=by
   unfold numV;rw [if_pos rfl,A6,Bl];rfl
  have c0:((0:Int)<((0:Nat):Int))=False:=eq_false omg;have c1:(((0:Nat):Int)=0)=True:=eq_true rfl;rw [e0];(refine bgo Tryz.func157 ?_;simp only [go_sem,simprocAttr]);(repeat' (first | ((refine Jqa (hD) ?_);simp only [go_sem,simprocAttr]) | fail));refine SWP.loop (fun _:Unit=>⟨Ba 30 [(0,.p (.int .i64 (0:Nat))),(3,.p (.str (Lib.decDigits 0))),(4,.p (.int .i64 0))],[]⟩) (fun _=>True) (fun _=>0) () Jqb trivial ?_;rintro _ _;(refine lws ?_;simp only [go_sem,simprocAttr])
  skip
 ·have e0:valL ((numV n).enc [])=[[.int .i64 3,.int .i64 0,.str [],.str (Jr9 (Lib.decDigits n)),.bool false,.int .i64 (((Lib.decDigits n).length - (Jr9 (Lib.decDigits n)).length:Nat):Int)]]:=by
   unfold numV;rw [if_neg h0,A6,Bl];rfl
  have hp:=Kaw h0;have c0:((0:Int)<(n:Int))=True:=eq_true omg;have c1:((n:Int)=0)=False:=eq_false omg;rw [e0];generalize Lib.decDigits n=D at *
  (refine bgo Tryz.func157 ?_;simp only [go_sem,simprocAttr]);(repeat' (first | ((refine Jqa (hD) ?_);simp only [go_sem,simprocAttr]) | fail));refine SWP.loop (fun x:List UInt8×Nat=>⟨Ba 30 [(0,.p (.int .i64 n)),(3,.p (.str x.1)),(4,.p (.int .i64 x.2))],[]⟩) (fun x=>D=x.1 ++ List.replicate x.2 48) (fun x=>x.1.length) (D,0) Jqb sm ?_;rintro ⟨a,e⟩ hx;simp only at hx;have hst:Jr9 D=Jr9 a:=by rw [hx,Kad]
  have hla:D.length=a.length+e:=by rw [hx];simp
  have hap:0<a.length:=by
   rcases Nat.eq_zero_or_pos a.length with h | h
   ·have:a=[]:=List.eq_nil_of_length_eq_zero h;rw [hst,this] at hp;exact absurd hp de
   ·exact h
  obtain ⟨b,ch,rfl⟩:∃ b ch,a=b ++ [ch]:=⟨a.dropLast,a.getLast (List.ne_nil_of_length_pos hap),(List.dropLast_concat_getLast _).symm⟩
  have hbl:(b ++ [ch]).length=b.length+1:=by simp
  have w1:IntKind.i64.wrap (((b.length+1:Nat):Int) - 1)=(b.length:Int):=by rw [Aa omg omg];omega
  have hat:at_ (b ++ [ch]) b.length=ch.toNat:=J22 b ch;have htk:(b ++ [ch]).take b.length=b:=by simp
  by_cases hc:ch=48
  ·have e1:((ch.toNat:Int)=48)=True:=eq_true (by rw [hc];rfl);have hx2:D=b ++ List.replicate (e+1) 48:=by rw [hx,hc,List.replicate_succ,List.append_assoc];rfl
   (refine lws ?_;simp only [go_sem,simprocAttr,c0,hbl,w1,hat,htk,wj1 (i:=e) omg,e1,decide_true]);(repeat' (first | (refine Jqe ?_) | fail))
   all_goals first
    | exact ⟨(b,e+1),hx2,by (show b.length<_);omega,Jqb⟩
    | omega
  ·have e1:((ch.toNat:Int)=48)=False:=eq_false fun h=>hc (Juv.1 omg)
   have hs2:Jr9 D=b ++ [ch]:=by rw [hst,Jym,if_neg hc]
   have hln:D.length - (Jr9 D).length=e:=by rw [hs2,hla];omega
   rw [hln,hs2];(refine lws ?_;simp only [go_sem,simprocAttr,c0,c1,hbl,w1,hat,e1])
   all_goals omega
theorem Kao:∀ {l:List KT} {i k:Nat} {p:KT},l[k]? = some p→(J9z i l)[k]? = some (J9y (numV (i+k)) p.2)
 | [],i,k,p,h=>by cases h
 | q :: l,i,0,p,h=>by cases h;rfl
 | q :: l,i,k+1,p,h=>by
  have:=Kao (l:=l) (i:=i+1) (k:=k) (p:=p) (by simpa using h);rw [J9z,List.getElem?_cons_succ,this,Nat.add_right_comm,Nat.add_assoc]
theorem Kar:∀ {l:List KT} {i:Nat},(J9z i l).length=l.length
 | [],_=>rfl
 | q :: l,i=>by rw [J9z,List.length_cons,Kar,List.length_cons]
theorem Kap (key x:Tree):((J9y key x).enc []).length=1+(key.enc []).length+(x.enc []).length:=by
 unfold J9y;rw [A6,List.length_cons,A0,A0,Bl,List.length_append,List.length_append,G7 key,G7 x];simp;omega
theorem Ka4 (n:Nat):((numV n).enc []).length=1:=by
 unfold numV;split <;> rw [A6,Bl] <;> rfl
theorem Kav (s:List UInt8):((strT s).enc []).length=1:=by
 unfold strT;rw [A6,Bl];rfl
theorem J91:∀ l:List KT,Jrd (J9x l)=2 * l.length+Jrd (l.map (·.2))
 | []=>rfl
 | p :: l=>by
  rw [show J9x (p :: l)=J9y (strT p.1) p.2 :: J9x l from rfl,Js5,Kap,Kav,J91 l,List.map_cons,Js5,List.length_cons];omega
theorem Kaj:∀ (l:List KT) (i:Nat),Jrd (J9z i l)=2 * l.length+Jrd (l.map (·.2))
 | [],_=>rfl
 | p :: l,i=>by
  rw [J9z,Js5,Kap,Ka4,Kaj l,List.map_cons,Js5,List.length_cons];omega
theorem J17 {α:Type} {l:List α} {k:Nat} {x:α} (h:l[k]? = some x):l.take (k+1)=l.take k ++ [x]:=by rw [List.take_add_one,h,Option.toList_some]
theorem ok_kind {k:Int} {s:List UInt8} {g:Bool} {e:Int} {kids:Forest} (h:okT (.mk k s g e kids)):0≤k∧k≤6:=by
 have h1:=(Lu.1 h).1;unfold G3 at h1;by_cases a:k=0∨k=1∨k=2
 ·omega
 ·by_cases b:k=3
  ·omega
  ·by_cases c:k=4
   ·omega
   ·by_cases d:k=5∨k=6
    ·omega
    ·rw [if_neg a,if_neg b,if_neg c,if_neg d] at h1;exact h1.elim
theorem Kam (v:Tree) (ok:okT v) (hv:(v.enc []).length≤100000):Det cx 80 [.p (.sl (valL (v.enc [])))] [] (getR (toE v)) []:=by
 obtain ⟨k,s,g,e,kids⟩:=v;have hkl:=Jqf kids;have hll:=Jqh kids;have hsz:=Jsr (.mk k s g e kids);have hsz:Jrd (@List.map KT Tree (fun p=>p.2) kids.list)+1=_:=hsz;have hmem:∀ p∈kids.list,(p.2.enc []).length≤100000:=fun p hp=>by have:=Jd7 hp;rw [A6,List.length_cons] at hv;omega
 rw [A6,List.length_cons] at hv hsz;have hP:=Dy [] k s g e kids omg;have hgv:=Cc [] k s g e kids;by_cases k6:k=6
 ·subst k6;have hN:=Ir [] s g e kids omg;have hLs:=Jxc (J9x kids.list) (by rw [J91];omega);have hel:(J9x kids.list).length=kids.list.length:=by simp [J9x]
  rw [show toE (.mk 6 s g e kids)=.ok (J90 (J9x kids.list)) from rfl,getR];generalize hvv:valL ((Tree.mk 6 s g e kids).enc [])=V at *
  (refine bgo Tryz.func80 ?_;simp only [go_sem,simprocAttr,hgv]);(repeat' (first | ((first | (refine Jqa (hP) ?_)|(refine Jqa (hN) ?_));simp only [go_sem,simprocAttr]) | fail));refine Jq0 (B1 [(18,46)] _ sm) ?_;simp only [go_sem,simprocAttr];refine SWP.loop (fun i:Nat=>⟨Ba 49 [(0,.p (.sl V)),(4,.p (.sl (A4 kids.list))),(5,.p (.sl (Bd kids.list))),(6,.own 46 0 i),(7,.p (.int .i64 i))],[(46,.row 25 1 (Jqm ((J9x kids.list).take i)))]⟩) (fun i=>i≤kids.list.length) (fun i=>kids.list.length - i) 0 Jqb (Nat.zero_le _) ?_;rintro i hi;by_cases hlt:i<kids.list.length
  ·have c1:((i:Int)<(kids.list.length:Int))=True:=eq_true omg;obtain ⟨p,hp⟩:∃ p,kids.list[i]? = some p:=⟨_,List.getElem?_eq_getElem hlt⟩
   have hg:=Hx hp;have hgn:(Bd kids.list)[i]? = some [.str p.1]:=by simp [Bd,hp]
   have hEn:=Kau (strT p.1) p.2 (by rw [Kav];omega) (by have:=hmem p (List.mem_of_getElem? hp);omega);rw [show valL ((strT p.1).enc [])=[[.int .i64 4,.int .i64 0,.str [],.str p.1,.bool false,.int .i64 0]] by unfold strT;rw [A6,Bl];rfl] at hEn;have hNm:=Kai i omg;have hen:(J9x kids.list)[i]? = some (J9y (strT p.1) p.2):=by simp [J9x,hp]
   have hln:(Jqm ((J9x kids.list).take i)).length=i:=by rw [Jqq,List.length_take];omega
   have htk:Jqm ((J9x kids.list).take (i+1))=Jqm ((J9x kids.list).take i) ++ [[.sl (valL ((J9y (strT p.1) p.2).enc []))]]:=by
    rw [J17 hen,Jvs];rfl
   (refine lws ?_;simp only [go_sem,simprocAttr,A5,c1,wj1 (i:=i) omg]);(repeat' (first | (refine And.intro (by first | (simp;done)|(simp;omega)) ?_)|(refine Jqe ?_)|((first | (refine Jqa (hNm) ?_)|(refine Jqa (hEn) ?_));simp only [go_sem,simprocAttr,hgv,hg,hgn,hln,wj1 (i:=i) omg]) | fail));exact ⟨i+1,by omega,by omega,by rw [htk];exact Jqb⟩
  ·obtain rfl:i=kids.list.length:=by omega
   have c1:((kids.list.length:Int)<(kids.list.length:Int))=False:=eq_false omg;have ht1:(J9x kids.list).take kids.list.length=J9x kids.list:=List.take_of_length_le omg;have hln:(Jqm (J9x kids.list)).length=kids.list.length:=by rw [Jqq,hel]
   have ht2:(Jqm (J9x kids.list)).take kids.list.length=Jqm (J9x kids.list):=List.take_of_length_le omg;(refine lws ?_;simp only [go_sem,simprocAttr,A5,c1,ht1,ht2,hln,Nat.le_refl]);(repeat' (first | ((refine Jqa (hLs) ?_);simp only [go_sem,simprocAttr]) | fail))
 ·by_cases k5:k=5
  ·subst k5;have hN:=Kay 5 s g e kids omg;have hLs:=Jxc (J9z 0 kids.list) (by rw [Kaj];omega);have hel:(J9z 0 kids.list).length=kids.list.length:=Kar;rw [show toE (.mk 5 s g e kids)=.ok (J90 (J9z 0 kids.list)) from rfl,getR];generalize hvv:valL ((Tree.mk 5 s g e kids).enc [])=V at *
   (refine bgo Tryz.func80 ?_;simp only [go_sem,simprocAttr,hgv]);(repeat' (first | ((first | (refine Jqa (hP) ?_)|(refine Jqa (hN) ?_));simp only [go_sem,simprocAttr]) | fail));refine Jq0 (B1 [(18,46)] _ sm) ?_;simp only [go_sem,simprocAttr];refine SWP.loop (fun i:Nat=>⟨Ba 49 [(0,.p (.sl V)),(4,.p (.sl (A4 kids.list))),(6,.own 46 0 i),(7,.p (.int .i64 i))],[(46,.row 25 1 (Jqm ((J9z 0 kids.list).take i)))]⟩) (fun i=>i≤kids.list.length) (fun i=>kids.list.length - i) 0 Jqb (Nat.zero_le _) ?_;rintro i hi;by_cases hlt:i<kids.list.length
   ·have c1:((i:Int)<(kids.list.length:Int))=True:=eq_true omg;obtain ⟨p,hp⟩:∃ p,kids.list[i]? = some p:=⟨_,List.getElem?_eq_getElem hlt⟩
    have hg:=Hx hp;have hEn:=Kau (numV i) p.2 (by rw [Ka4];omega) (by have:=hmem p (List.mem_of_getElem? hp);omega);have hNm:=Kai i omg;have hen:=Kao (i:=0) hp;rw [Nat.zero_add] at hen;have hln:(Jqm ((J9z 0 kids.list).take i)).length=i:=by rw [Jqq,List.length_take];omega
    have htk:Jqm ((J9z 0 kids.list).take (i+1))=Jqm ((J9z 0 kids.list).take i) ++ [[.sl (valL ((J9y (numV i) p.2).enc []))]]:=by
     rw [J17 hen,Jvs];rfl
    (refine lws ?_;simp only [go_sem,simprocAttr,A5,c1,wj1 (i:=i) omg]);(repeat' (first | (refine And.intro (by first | (simp;done)|(simp;omega)) ?_)|(refine Jqe ?_)|((first | (refine Jqa (hNm) ?_)|(refine Jqa (hEn) ?_));simp only [go_sem,simprocAttr,hgv,hg,hln,wj1 (i:=i) omg]) | fail));exact ⟨i+1,by omega,by omega,by rw [htk];exact Jqb⟩
   ·obtain rfl:i=kids.list.length:=by omega
    have c1:((kids.list.length:Int)<(kids.list.length:Int))=False:=eq_false omg;have ht1:(J9z 0 kids.list).take kids.list.length=J9z 0 kids.list:=List.take_of_length_le omg;have hln:(Jqm (J9z 0 kids.list)).length=kids.list.length:=by rw [Jqq,hel]
    have ht2:(Jqm (J9z 0 kids.list)).take kids.list.length=Jqm (J9z 0 kids.list):=List.take_of_length_le omg;(refine lws ?_;simp only [go_sem,simprocAttr,A5,c1,ht1,ht2,hln,Nat.le_refl]);(repeat' (first | ((refine Jqa (hLs) ?_);simp only [go_sem,simprocAttr]) | fail))
  ·have hkk:=ok_kind ok;have c1:(k<5)=True:=eq_true omg;rw [show toE (.mk k s g e kids)=.error 5 by unfold toE;rw [if_neg (show ¬ (Tree.mk k s g e kids).kind=6 from k6),if_neg (show ¬ (Tree.mk k s g e kids).kind=5 from k5)],getR];(refine bgo Tryz.func80 ?_;simp only [go_sem,simprocAttr,hgv,c1])
   all_goals rfl
theorem Ka1 {t:Tree} {l:List Tree} {out:List KT}:J93 (t :: l) out=match entR t with
  | none=>none
  | some p=>J93 l (putL p.1 p.2 (A8 p.1 out)):=by rw [J93]<;>rfl
theorem Kbe (name:List UInt8) (l:List KT):(A1 (A8 name l)).enc.length≤(A1 l).enc.length:=by
 have:=El name (A1 l);rw [Hd] at this;exact this
theorem J97 {name:List UInt8}:∀ {l:List KT} {p:KT},p∈A8 name l→p∈l∧p.1≠name
 | [],p,h=>by cases h
 | q :: l,p,h=>by
  rw [A8] at h;split at h
  ·have:=J97 h;exact ⟨List.mem_cons_of_mem _ this.1,this.2⟩
  ·rename_i hq;rcases List.mem_cons.1 h with rfl | h
   ·exact ⟨List.mem_cons_self,hq⟩
   ·have:=J97 h;exact ⟨List.mem_cons_of_mem _ this.1,this.2⟩
theorem Ka9 {l:List Tree} {i:Nat} {t:Tree} (h:l[i]? = some t):Jrd (l.take (i+1))=Jrd (l.take i)+(t.enc []).length:=by
 rw [J17 h,Jw1];simp [Jrd]
theorem J3c (l:List Tree) (i:Nat):Jrd (l.take i)≤Jrd l:=by
 conv=>rhs;rw [← List.take_append_drop i l,Jw1]
 omega
theorem Kb6 {k:Int} {s:List UInt8} {g:Bool} {e:Int} {kids:Forest} (h:¬ k=6):entR (.mk k s g e kids)=none:=by rw [Kaa,if_neg h]
theorem Ka8 {s:List UInt8} {g:Bool} {e:Int} {kids:Forest} (h:Ch sKey kids.list=none):entR (.mk 6 s g e kids)=none:=by rw [Kaa,if_pos rfl,h]
theorem ent_bad {s:List UInt8} {g:Bool} {e:Int} {kids:Forest} {k':Int} {s':List UInt8} {g':Bool} {e':Int} {kids':Forest} (h:Ch sKey kids.list=some (.mk k' s' g' e' kids')) (hk:¬ k'=4):entR (.mk 6 s g e kids)=none:=by
 rw [Kaa,if_pos rfl,h];simp only [if_neg hk]
theorem Kb8 {s:List UInt8} {g:Bool} {e:Int} {kids:Forest} {s':List UInt8} {g':Bool} {e':Int} {kids':Forest} (h:Ch sKey kids.list=some (.mk 4 s' g' e' kids')):entR (.mk 6 s g e kids)=some (s',(Ch sVal kids.list).getD nilT):=by
 rw [Kaa,if_pos rfl,h];simp only [if_pos]
theorem Kac (v:Tree) (ok:okT v) (hfit:FitT v) (hv:(v.enc []).length≤100000):Det cx 81 [.p (.sl (valL (v.enc [])))] [] (getR (J96 v)) []:=by
 have hsz:=Jsr v;by_cases hk:v.kind=5
 ·have hP:Det cx 26 [.p (.sl (valL (v.enc [])))] [] (.p (.sl (Jqm (Jqc v)))) []:=by
   obtain ⟨k,s',g,e,kids⟩:=v;have hP:=Dy [] k s' g e kids (by rw [A6,List.length_cons] at hv;omega);rw [Jxp] at hP;exact hP
  obtain ⟨r,hg0⟩:=row0 v;rw [hk] at hg0;have hkids:∀ t∈Jqc v,okT t∧FitT t∧(t.enc []).length≤100000:=fun t ht=>by
   refine ⟨J7l ok t ht,?_,by have:=Jt1 ht;omega⟩;obtain ⟨k,s',g,e,kids⟩:=v;obtain ⟨p,hp,rfl⟩:=List.mem_map.1 ht;exact (Mg hfit hp).2
  have hfe:J96 v=match J93 (Jqc v) [] with
   | some l=>.ok (nd 6 l)
   | none=>.error 5:=by unfold J96;rw [if_pos hk]<;>rfl
  rw [hfe];have hlen:=Jtx (Jqc v);have hnil:valL ((nd 6 []).enc [])=[[.int .i64 6,.int .i64 0,.str [],.str [],.bool false,.int .i64 0]]:=by
   unfold nd;rw [A6,show A1 []=.nil from rfl,Bl];rfl
  generalize Jqc v=l at *
  (refine bgo Tryz.func81 ?_;simp only [go_sem,simprocAttr,hg0]);(repeat' (first | ((refine Jqa (hP) ?_);simp only [go_sem,simprocAttr]) | fail));refine Jq0 (Kan _ (d:=19)) ?_;simp only [go_sem,simprocAttr];refine SWP.loop (fun x:Nat×List KT=>⟨Ba 71 [(4,.p (.sl (Jqm l))),(5,.p (.sl (valL ((nd 6 x.2).enc [])))),(6,.p (.int .i64 x.1))],[]⟩) (fun x=>x.1≤l.length∧J93 l []=J93 (l.drop x.1) x.2∧Rise x.2∧(∀ p∈x.2,valid p.1=true∧p.1.length≤1000000)∧(A1 x.2).enc.length≤Jrd (l.take x.1)) (fun x=>l.length - x.1) (0,[]) (by simp only;rw [hnil];exact Jqb) ⟨Nat.zero_le _,rfl,.nil,by simp,by rw [show A1 []=.nil from rfl,Bl];exact Nat.zero_le _⟩ ?_;rintro ⟨i,out⟩ ⟨hi,h2,h3,h4,h5⟩;simp only at hi h2 h3 h4 h5 ⊢;by_cases hlt:i<l.length
  ·have c1:((i:Int)<(l.length:Int))=True:=eq_true omg;obtain ⟨t,ht⟩:∃ t,l[i]? = some t:=⟨_,List.getElem?_eq_getElem hlt⟩
   have hg:=Jr4 ht;obtain ⟨okt,fitt,lent⟩:=hkids t (List.mem_of_getElem? ht);have hd:l.drop i=t :: l.drop (i+1):=by rw [List.drop_eq_getElem_cons hlt];congr 1;rw [List.getElem?_eq_getElem hlt] at ht;exact Option.some.inj ht
   rw [hd,Ka1] at h2;have hts:=Ka9 ht;have htl:=J3c l (i+1);obtain ⟨tk,ts,tg,te,tkids⟩:=t;have hgt:=Cc [] tk ts tg te tkids;by_cases k6:tk=6
   ·subst k6;have hlk:tkids.enc.length≤99999:=by rw [A6,List.length_cons] at lent;omega
    have hF1:=Re [] ts tg te tkids sKey omg;have hF2:=Re [] ts tg te tkids sVal omg;cases f1:Ch sKey tkids.list with
    | none =>
     rw [Ka8 f1] at h2;simp only at h2;rw [f1] at hF1;unfold Oo at hF1;rw [h2];cases f2:Ch sVal tkids.list with
     | none =>
      rw [f2] at hF2;unfold Oo at hF2;(refine lws ?_;simp only [go_sem,simprocAttr,Jqq,c1,hg,hgt]);(repeat' (first | ((first | (refine Jqa (hF1) ?_)|(refine Jqa (hF2) ?_));simp only [go_sem,simprocAttr,hg]) | fail))
      all_goals rfl
     | some x =>
      rw [f2] at hF2;unfold Oo at hF2;(refine lws ?_;simp only [go_sem,simprocAttr,Jqq,c1,hg,hgt]);(repeat' (first | ((first | (refine Jqa (hF1) ?_)|(refine Jqa (hF2) ?_));simp only [go_sem,simprocAttr,hg]) | fail))
      all_goals rfl
    | some key =>
     obtain ⟨kk,ks,kg,ke,kkids⟩:=key;have hgk:=Cc [] kk ks kg ke kkids;have hkl:(valL ((Tree.mk kk ks kg ke kkids).enc [])).length=kkids.enc.length+1:=by rw [A7,A6];rfl
     obtain ⟨pk,mk1,ek,_⟩:=H2 f1;have okk:=Jut okt mk1;have fitk:=(Mg fitt mk1).2;rw [ek] at okk fitk;have hksl:ks.length≤1000000:=(fitk ⟨kk,kkids.len,[],ks,kg,ke⟩ (by rw [A6];exact List.mem_cons_self)).s;rw [f1] at hF1;unfold Oo at hF1;by_cases k4:kk=4
     ·subst k4;rw [Kb8 f1] at h2;simp only at h2;have hvk:valid ks=true:=by
       have:=(Lu.1 okk).1;simp [G3] at this;exact this.1
      have hkle:=Kbe ks out;have hW:∀ x:Tree,(x.enc []).length≤100000→Det cx 159 [.p (.sl (valL ((nd 6 out).enc []))),.p (.str ks),.p (.sl (valL (x.enc [])))] [] (.p (.sl (valL ((nd 6 (putL ks x (A8 ks out))).enc [])))) []:=fun x hx=>by
       have hw:=Tl [] [] false 0 (A1 out) ks x omg omg (by rw [Hd];exact h3.kept ks) (by rw [Hd];exact fun p hp=>(h4 p hp).2) (by rw [Hd];exact fun p hp=>(h4 p hp).1) hksl hvk;rw [Hd] at hw;exact hw
      have hnext:∀ x:Tree,(x.enc []).length≤((Tree.mk 6 ts tg te tkids).enc []).length→Rise (putL ks x (A8 ks out))∧(∀ p∈putL ks x (A8 ks out),valid p.1=true∧p.1.length≤1000000)∧(A1 (putL ks x (A8 ks out))).enc.length≤Jrd (l.take (i+1)):=fun x hx=>by
       refine ⟨Kh (h3.kept ks) fun p hp=>(J97 hp).2,fun p hp=>?_,?_⟩
       ·have:=(Hv ks x (A8 ks out)).mem_iff.1 hp;rcases List.mem_cons.1 this with rfl | h
        ·exact ⟨hvk,hksl⟩
        ·exact h4 p (J97 h).1
       ·rw [Iv,hts];omega
      cases f2:Ch sVal tkids.list with
      | none =>
       rw [f2] at hF2 h2;unfold Oo at hF2;rw [Option.getD_none] at h2;have hWx:=hW nilT (by rw [Jzp];decide);obtain ⟨n1,n2,n3⟩:=hnext nilT (by rw [Jzp];exact Et _ _);(refine lws ?_;simp only [go_sem,simprocAttr,Jqq,c1,hg,hgt,wj1 (i:=i) omg]);(repeat' (first | (apply iteI <;> intro h)|((first | (refine Jqa (hF1) ?_)|(refine Jqa (hF2) ?_)|(refine Jqa (Jw9) ?_)|(refine Jqa (hWx) ?_));simp only [go_sem,simprocAttr,hg,hgk,hkl,wj1 (i:=i) omg])|(exfalso;omega)))
       all_goals exact ⟨(i+1,putL ks nilT (A8 ks out)),⟨by simp only;omega,h2,n1,n2,n3⟩,by simp only;omega,Jqb⟩
      | some x =>
       rw [f2] at hF2 h2;unfold Oo at hF2;rw [Option.getD_some] at h2;obtain ⟨px,mx,ex,_⟩:=H2 f2;have hxl:=Jd7 mx;rw [ex] at hxl;have hWx:=hW x omg;obtain ⟨n1,n2,n3⟩:=hnext x (by rw [A6,List.length_cons];omega);(refine lws ?_;simp only [go_sem,simprocAttr,Jqq,c1,hg,hgt,wj1 (i:=i) omg]);(repeat' (first | (apply iteI <;> intro h)|((first | (refine Jqa (hF1) ?_)|(refine Jqa (hF2) ?_)|(refine Jqa (hWx) ?_));simp only [go_sem,simprocAttr,hg,hgk,hkl,wj1 (i:=i) omg])|(exfalso;omega)))
       all_goals exact ⟨(i+1,putL ks x (A8 ks out)),⟨by simp only;omega,h2,n1,n2,n3⟩,by simp only;omega,Jqb⟩
     ·rw [ent_bad f1 k4] at h2;simp only at h2;rw [h2];have c4:=eq_false k4;cases f2:Ch sVal tkids.list with
      | none =>
       rw [f2] at hF2;unfold Oo at hF2;(refine lws ?_;simp only [go_sem,simprocAttr,Jqq,c1,hg,hgt]);(repeat' (first | (apply iteI <;> intro h)|((first | (refine Jqa (hF1) ?_)|(refine Jqa (hF2) ?_));simp only [go_sem,simprocAttr,hg,hgk,hkl,c4])|(exfalso;omega)))
       all_goals rfl
      | some x =>
       rw [f2] at hF2;unfold Oo at hF2;(refine lws ?_;simp only [go_sem,simprocAttr,Jqq,c1,hg,hgt]);(repeat' (first | (apply iteI <;> intro h)|((first | (refine Jqa (hF1) ?_)|(refine Jqa (hF2) ?_));simp only [go_sem,simprocAttr,hg,hgk,hkl,c4])|(exfalso;omega)))
       all_goals rfl
   ·rw [Kb6 k6] at h2;simp only at h2;rw [h2];have c6:=eq_false k6;(refine lws ?_;simp only [go_sem,simprocAttr,Jqq,c1,hg,hgt,c6])
    all_goals rfl
  ·obtain rfl:i=l.length:=by omega
   have c1:((l.length:Int)<(l.length:Int))=False:=eq_false omg;rw [List.drop_length,J93] at h2;rw [h2];simp only [getR];(refine lws ?_;simp only [go_sem,simprocAttr,Jqq,c1])
   skip
 ·have hfe:J96 v=.error 5:=by unfold J96;rw [if_neg hk]
  rw [hfe,getR];obtain ⟨k,s',g,e,kids⟩:=v;have c1:(k=5)=False:=eq_false hk;(refine bgo Tryz.func81 ?_;simp only [go_sem,simprocAttr,Cc,c1,not_false_eq_true])
  all_goals rfl
def oneQ (op:Int) (s:List UInt8):List (List PV):=[[.int .i64 op,.int .i64 0,.str [],.str s,.int .i64 0,.int .i64 0,.int .i64 0,.str [],.str [],.bool false,.int .i64 0]]
theorem Kas (v:Tree) (ok:okT v) (hv:(v.enc []).length≤100000):Det cx 25 [.p (.sl (oneQ 10 [])),.p (.sl (valL (v.enc [])))] [] (getR (toE v)) []:=by
 have hS:=Kam v ok hv;unfold oneQ;cases hr:toE v with
 | ok x =>
  rw [hr,getR] at hS;rw [getR];(refine bgo Tryz.func25 ?_;simp only [go_sem,simprocAttr]);(repeat' (first | ((refine Jqa (hS) ?_);simp only [go_sem,simprocAttr]) | fail))
 | error e =>
  rw [hr,getR] at hS;rw [getR];(refine bgo Tryz.func25 ?_;simp only [go_sem,simprocAttr]);(repeat' (first | ((refine Jqa (hS) ?_);simp only [go_sem,simprocAttr]) | fail))
theorem Ka0 (v:Tree) (ok:okT v) (hfit:FitT v) (hv:(v.enc []).length≤100000):Det cx 25 [.p (.sl (oneQ 11 [])),.p (.sl (valL (v.enc [])))] [] (getR (J96 v)) []:=by
 have hS:=Kac v ok hfit hv;unfold oneQ;cases hr:J96 v with
 | ok x =>
  rw [hr,getR] at hS;rw [getR];(refine bgo Tryz.func25 ?_;simp only [go_sem,simprocAttr]);(repeat' (first | ((refine Jqa (hS) ?_);simp only [go_sem,simprocAttr]) | fail))
 | error e =>
  rw [hr,getR] at hS;rw [getR];(refine bgo Tryz.func25 ?_;simp only [go_sem,simprocAttr]);(repeat' (first | ((refine Jqa (hS) ?_);simp only [go_sem,simprocAttr]) | fail))
theorem J0w:∀ l:List Tree,(∀ x∈l,VFit x)→∀ n∈(A1 (unT l)).enc,NodeFit n
 | [],_,n,hn=>by rw [show A1 (unT [])=.nil from rfl,Bl] at hn;cases hn
 | t :: l,hl,n,hn=>by
  rw [show A1 (unT (t :: l))=.cons [] t (A1 (unT l)) from rfl,A0] at hn;rcases List.mem_append.1 hn with hn | hn
  ·exact (hl t List.mem_cons_self).fit n hn
  ·exact J0w l (fun x hx=>hl x (List.mem_cons_of_mem _ hx)) n hn
theorem Jw8 {l:List Tree} (h:∀ x∈l,VFit x) (hs:Jrd l≤999999):VFit (J90 l):=by
 refine ⟨list_ok fun x hx=>(h x hx).ok,fun n hn=>?_,by rw [Jvb];omega⟩;unfold J90 at hn;rw [A6] at hn;rcases List.mem_cons.1 hn with rfl | hn
 ·exact ⟨Nat.zero_le _,Nat.zero_le _,(by decide:(-9223372036854775808:Int)≤0),(by decide:(0:Int)≤9223372036854775807)⟩
 ·exact J0w l h n hn
theorem Juw {v:Tree} (hv:VFit v):∀ x∈Jqc v,VFit x:=fun x hx=>by
 obtain ⟨k,s',g,e,kids⟩:=v;obtain ⟨p,hp,rfl⟩:=List.mem_map.1 hx;exact hv.kid hp
theorem Kba {t:Tree} (h:FitT t) {nm:List UInt8} (hn:nm.length≤1000000):∀ n∈t.enc nm,NodeFit n:=by
 obtain ⟨k,s,g,e,kids⟩:=t;intro n hn';unfold FitT at h;rw [A6] at h hn';rcases List.mem_cons.1 hn' with rfl | h'
 ·have:=h _ List.mem_cons_self;exact ⟨this.s,hn,this.e0,this.e1⟩
 ·exact h n (List.mem_cons_of_mem _ h')
theorem Kaf:∀ l:List KT,(∀ p∈l,FitT p.2∧p.1.length≤1000000)→∀ n∈(A1 l).enc,NodeFit n
 | [],_,n,hn=>by rw [show A1 []=.nil from rfl,Bl] at hn;cases hn
 | p :: l,hl,n,hn=>by
  rw [show A1 (p :: l)=.cons p.1 p.2 (A1 l) from rfl,A0] at hn;obtain ⟨h1,h2⟩:=hl p List.mem_cons_self;rcases List.mem_append.1 hn with hn | hn
  ·exact Kba h1 h2 n hn
  ·exact Kaf l (fun x hx=>hl x (List.mem_cons_of_mem _ hx)) n hn
theorem Kbk {l:List KT} (ok:okT (nd 6 l)) (h:∀ p∈l,FitT p.2∧p.1.length≤1000000) (hs:(A1 l).enc.length≤999999):VFit (nd 6 l):=by
 refine ⟨ok,fun n hn=>?_,by unfold nd;rw [A6,List.length_cons];omega⟩;unfold nd at hn;rw [A6] at hn;rcases List.mem_cons.1 hn with rfl | hn
 ·exact ⟨Nat.zero_le _,Nat.zero_le _,(by decide:(-9223372036854775808:Int)≤0),(by decide:(0:Int)≤9223372036854775807)⟩
 ·exact Kaf l h n hn
theorem Kab:∀ l:List KT,(A1 l).enc.length=Jrd (l.map (·.2))
 | []=>by rw [show A1 []=.nil from rfl,Bl];rfl
 | p :: l=>by rw [show A1 (p :: l)=.cons p.1 p.2 (A1 l) from rfl,A0,List.length_append,Kab l,List.map_cons,Js5,G7 p.2]
theorem str_ok {s:List UInt8} (h:valid s=true):okT (strT s):=by
 unfold strT;rw [Lu];exact ⟨by simp [G3,h,Forest.len],Sb 4,I6⟩
theorem str_fit {s:List UInt8} (h:s.length≤1000000):FitT (strT s):=by
 intro n hn;unfold strT at hn;rw [A6,Bl] at hn;simp only [List.mem_cons,List.not_mem_nil,or_false] at hn;subst hn;exact ⟨h,Nat.zero_le _,(by decide:(-9223372036854775808:Int)≤0),(by decide:(0:Int)≤9223372036854775807)⟩
theorem Kbc {nm:List UInt8} {x:Tree} (hv:valid nm=true) (hn:nm.length≤1000000) (hx:VFit x) (hs:(x.enc []).length≤400000):VFit (J9y (strT nm) x):=by
 show VFit (nd 6 [(sKey,strT nm),(sVal,x)]);have hlt:Op.bytesLess sKey sVal=true:=by decide
 refine Kbk (Jdh.2 ⟨by simp [G3],⟨fun h=>by omega,fun p hp=>?_,fun _=>?_⟩,fun p hp=>?_⟩) (fun p hp=>?_) ?_
 ·simp only [List.mem_cons,List.not_mem_nil,or_false] at hp;rcases hp with rfl | rfl
  ·show valid sKey=true;decide
  ·show valid sVal=true;decide
 ·exact List.pairwise_cons.2 ⟨fun q hq=>by simp only [List.mem_cons,List.not_mem_nil,or_false] at hq;subst hq;exact hlt,by simp⟩
 ·simp only [List.mem_cons,List.not_mem_nil,or_false] at hp;rcases hp with rfl | rfl
  ·exact str_ok hv
  ·exact hx.ok
 ·simp only [List.mem_cons,List.not_mem_nil,or_false] at hp;rcases hp with rfl | rfl
  ·exact ⟨str_fit hn,(by decide:sKey.length≤1000000)⟩
  ·exact ⟨hx.fit,(by decide:sVal.length≤1000000)⟩
 ·rw [Kab];simp only [List.map_cons,List.map_nil,Js5,Kbi,Kav];omega
theorem Kal (v:List YRow) (u:List Node) (hv:TyFit v) (hu:ValFit u):Det cx 6 [.p (.sl (rowL v)),.p (.sl (valL u))] [] (.p (.bool true)) []:=by
 have hG:=d_given v u hv hu;cases b1:Jzh v 60 with
 | false =>
  rw [b1,Bool.false_and] at hG;(refine bgo Tryz.func6 ?_;simp only [go_sem,simprocAttr]);(repeat' (first | ((first | (refine Jqa (hG) ?_)|(refine Jqa (Jsh) ?_));simp only [go_sem,simprocAttr]) | fail))
 | true =>
  cases b2:fewB u 60 with
  | false =>
   rw [b1,b2] at hG;(refine bgo Tryz.func6 ?_;simp only [go_sem,simprocAttr]);(repeat' (first | ((first | (refine Jqa (hG) ?_)|(refine Jqa (Jsh) ?_));simp only [go_sem,simprocAttr]) | fail))
  | true =>
   rw [b1,b2] at hG;obtain ⟨t,ht,ht9,rfl,htl,hts⟩:=J81 b1;obtain ⟨x,hx,rfl,hxl,hxf⟩:=Fw hu b2;have hV:VFit x:=⟨hx,hxf,by omega⟩
   have hrf:rfL (Js1 [[]] t)=.cons [] t .nil:=rfl;have hone:=fun (kd:Int) (hkd:kd=3∨kd=6) (y:Tree) (hy:VFit y)=>d_In 4000 (.mk kd [] 0 Jrp (rfL (Js1 [[]] t))) (by rw [Jqo,List.length_cons,Jxu];simp;omega) (J06 ht ht9 kd 1 omg) (by simp only [RT.kind];omega) (J8w hts kd 0) (by rw [Jqo,List.length_cons,Jxu];simp;omega) y hy
   have hI3:=hone 3 (.inl rfl);have hI6:=hone 6 (.inr rfl);have hm3:=J86 3 t omg;have hm6:=J86 6 t omg;rw [hrf] at hI3 hI6 hm3 hm6;obtain ⟨r,hg0⟩:=row0 x;by_cases k6:x.kind=6
   ·have c6:=eq_true k6;obtain ⟨y,e1,e2,e3⟩:=Kbp (q:=([],t)) hx k6;have hE:=Kas x hx omg;rw [e1,getR] at hE;unfold oneQ at hE;have hkz:=Jsr x;have hez:Jrd (J9x x.kids.list)=2 * x.kids.list.length+Jrd (Jqc x):=J91 x.kids.list;have hkl:x.kids.list.length≤Jrd (Jqc x):=by
     have h1:=Jtx (Jqc x);have h2:(Jqc x).length=x.kids.list.length:=List.length_map ..
     omega
    have hY:VFit y:=by
     rw [e3];refine Jw8 (fun z hz=>?_) omg;obtain ⟨p,hp,rfl⟩:=List.mem_map.1 hz;have hxk:(p.2.enc []).length≤Jrd (Jqc x):=Jt1 (List.mem_map.2 ⟨p,hp,rfl⟩);have hp4:(p.2.enc []).length≤400000:=by omega
     obtain ⟨k,s',g,e,kids⟩:=x;exact Kbc ((Lu.1 hx).2.1.2.1 p hp) (Mg hxf hp).1 (hV.kid hp) hp4
    have hIa:=hI6 y hY;have hIb:=hI3 x hV;have e2:inTy (.mk 6 [] 0 Jrp (.cons [] t .nil)) y=inTy (.mk 3 [] 0 Jrp (.cons [] t .nil)) x:=e2;rw [e2] at hIa;generalize inTy (.mk 3 [] 0 Jrp (.cons [] t .nil)) x=B at *
    generalize rowL ((RT.mk 3 [] 0 Jrp (.cons [] t .nil)).enc [])=rows3 at *
    generalize rowL ((RT.mk 6 [] 0 Jrp (.cons [] t .nil)).enc [])=rows6 at *
    cases B with
    | false =>
     (refine bgo Tryz.func6 ?_;simp only [go_sem,simprocAttr]);(repeat' (first | ((first | (refine Jqa (hG) ?_)|(refine Jqa (Jsh) ?_)|(refine Jqa (hm3) ?_)|(refine Jqa (hm6) ?_)|(refine Jqa (hE) ?_)|(refine Jqa (hIa) ?_)|(refine Jqa (hIb) ?_));simp only [go_sem,simprocAttr,hg0,c6]) | fail))
    | true =>
     (refine bgo Tryz.func6 ?_;simp only [go_sem,simprocAttr]);(repeat' (first | ((first | (refine Jqa (hG) ?_)|(refine Jqa (Jsh) ?_)|(refine Jqa (hm3) ?_)|(refine Jqa (hm6) ?_)|(refine Jqa (hE) ?_)|(refine Jqa (hIa) ?_)|(refine Jqa (hIb) ?_));simp only [go_sem,simprocAttr,hg0,c6]) | fail))
   ·have c6:=eq_false k6;have hIa:=hI6 x hV;cases hb:inTy (.mk 6 [] 0 Jrp (.cons [] t .nil)) x with
    | false =>
     have hIb:=hI3 x hV;have hno:inTy (.mk 3 [] 0 Jrp (.cons [] t .nil)) x=false:=by
      cases h:inTy (.mk 3 [] 0 Jrp (.cons [] t .nil)) x with
      | false=>rfl
      | true=>exact absurd ((Kag (q:=([],t))).1 h).1 k6
     rw [hno] at hIb;rw [hb] at hIa;generalize rowL ((RT.mk 3 [] 0 Jrp (.cons [] t .nil)).enc [])=rows3 at *
     generalize rowL ((RT.mk 6 [] 0 Jrp (.cons [] t .nil)).enc [])=rows6 at *
     (refine bgo Tryz.func6 ?_;simp only [go_sem,simprocAttr]);(repeat' (first | ((first | (refine Jqa (hG) ?_)|(refine Jqa (Jsh) ?_)|(refine Jqa (hm3) ?_)|(refine Jqa (hm6) ?_)|(refine Jqa (hIa) ?_)|(refine Jqa (hIb) ?_));simp only [go_sem,simprocAttr,hg0,c6]) | fail))
    | true =>
     rw [hb] at hIa;obtain ⟨l,f1,f2,f3,f4,f5⟩:=Ka7 (q:=([],t)) hx hb;have hE1:=Ka0 x hx hxf omg;rw [f1,getR] at hE1;have hkz:=Jsr x;have hen:Jqc x=J9x l:=by rw [f4,Jrx]
     have hez:=J91 l;rw [hen] at hkz;have hls:=Kab l;have hlf:∀ p∈l,FitT p.2∧p.1.length≤1000000:=fun p hp=>by
      have h1:=Juw hV (J9y (strT p.1) p.2) (by rw [hen];exact List.mem_map.2 ⟨p,hp,rfl⟩);have h2:VFit (.mk 6 [] false 0 (.cons sKey (strT p.1) (.cons sVal p.2 .nil))):=h1;have h3:=h2.kid (p:=(sKey,strT p.1)) List.mem_cons_self;have h4:=h2.kid (p:=(sVal,p.2)) (List.mem_cons_of_mem _ List.mem_cons_self);refine ⟨h4.fit,?_⟩;have:=h3.fit ⟨4,0,[],p.1,false,0⟩ (by unfold strT;rw [A6,Bl];exact List.mem_cons_self);exact this.s
     have hN:=Kbk f5 hlf omg;have hnl:((nd 6 l).enc []).length≤100000:=by unfold nd;rw [A6,List.length_cons];omega
     have hE2:=Kas (nd 6 l) f5 hnl;rw [f2,getR] at hE2;have hI3':=hI3 (nd 6 l) hN;have f3:inTy (.mk 3 [] 0 Jrp (.cons [] t .nil)) (nd 6 l)=true:=f3;rw [f3] at hI3';have hS:=E2 (x.enc []) (x.enc []) omg omg;rw [decide_eq_true rfl] at hS;unfold oneQ at hE1 hE2;generalize rowL ((RT.mk 3 [] 0 Jrp (.cons [] t .nil)).enc [])=rows3 at *
     generalize rowL ((RT.mk 6 [] 0 Jrp (.cons [] t .nil)).enc [])=rows6 at *
     (refine bgo Tryz.func6 ?_;simp only [go_sem,simprocAttr]);(repeat' (first | ((first | (refine Jqa (hG) ?_)|(refine Jqa (Jsh) ?_)|(refine Jqa (hm3) ?_)|(refine Jqa (hm6) ?_)|(refine Jqa (hIa) ?_)|(refine Jqa (hE1) ?_)|(refine Jqa (hE2) ?_)|(refine Jqa (hI3') ?_)|(refine Jqa (hS) ?_));simp only [go_sem,simprocAttr,hg0,c6]) | fail))
end Go.LX
