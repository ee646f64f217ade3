/- Groups of places: plain facts. -/
import Derived.Test.YtaghbedfogiopaaGreatDoorPxJ
import Derived.WalkSpells
import Derived.Shelf.SlicesE.Delete
set_option linter.unusedSimpArgs false
set_option linter.unusedVariables false
set_option linter.unusedSectionVars false
set_option linter.unnecessarySimpa false
set_option maxRecDepth 100000
set_option maxHeartbeats 2000000
namespace Go.LX
open Go Go.RowKit Go.Proofs
attribute [local irreducible] Al SWP Bi
def Ju8 (ks:List Tree) (st:List (List Nat)×List Nat) (a:Nat):List (List Nat)×List Nat :=
 if st.2≠[]/\cmpT (Jq3 ks a) (Jq3 ks (st.2.headD 0))≠0 then (st.1 ++ [st.2],[a]) else (st.1,st.2 ++ [a])
def Jrj (ks:List Tree) (l:List Nat):List (List Nat)×List Nat:=l.foldl (Ju8 ks) ([],[])
def Jrp (st:List (List Nat)×List Nat):List (List Nat):=if st.2=[] then st.1 else st.1 ++ [st.2]
def Jri (ks:List Tree):List (List Nat):=Jrp (Jrj ks (Jra ks))
theorem Kaw (ks:List Tree) (l:List Nat) (a:Nat):Jrj ks (l ++ [a])=Ju8 ks (Jrj ks l) a:=by simp[Jrj,List.foldl_append]
theorem Jye {ks:List Tree} {l:List Nat} {i a:Nat} (h:l[i]? = some a):Jrj ks (l.take (i+1))=Ju8 ks (Jrj ks (l.take i)) a:=by
 rw[Ebc,h,Option.toList_some,Kaw]
structure GInv (ks:List Tree) (l:List Nat) (st:List (List Nat)×List Nat):Prop where
 flat:st.1.flatten ++ st.2=l
 opn:l≠[]->st.2≠[]
 ne:∀ g∈st.1,g≠[]
 same:∀ g∈Jrp st,∀ i∈g,Jq3 ks i=Jq3 ks (g.headD 0)
 rise:(Jrp st).Pairwise fun g h=>cmpT (Jq3 ks (g.headD 0)) (Jq3 ks (h.headD 0))<0
theorem Kfq {g:List Nat} (h:g≠[]):g.headD 0∈g:=by
 cases g with
 | nil=>exact absurd rfl h
 | cons a g=>exact Eaf
theorem Jt4 {st:List (List Nat)×List Nat} (h:st.2≠[]):Jrp st=st.1 ++ [st.2]:=by rw[Jrp,if_neg h]
theorem Kb8 {ks:List Tree} (ok:okK ks) {l:List Nat} {a:Nat} {st:List (List Nat)×List Nat} (h:GInv ks l st) (hl:∀ x∈l,cmpT (Jq3 ks x) (Jq3 ks a)<=0):GInv ks (l ++ [a]) (Ju8 ks st a):=by
 obtain ⟨o,g⟩:=st;obtain ⟨h1,h2,h3,h4,h5⟩:=h;unfold Ju8;simp only at h1 h2 h3 h4 h5 ⊢;by_cases hg:g=[]
 ·subst hg;have hl0:l=[]:=Classical.byContradiction fun e=>h2 e rfl
  subst hl0;rw[Eaw] at h1;rw[if_neg sm];have ho:o=[]:=by
   cases o with
   | nil=>rfl
   | cons x o =>
    rw[List.flatten_cons] at h1;have:=h3 x Eaf;exact absurd (List.append_eq_nil_iff.1 h1).1 this
  subst ho;refine ⟨rfl,fun _=>by simp,fun _ h=>(by cases h),fun g hg i hi=>?_,?_⟩
  ·simp[Jrp] at hg;subst hg;simp at hi;subst hi;rfl
  ·simp[Jrp]
 ·have hh:=Kfq hg;have hml:∀ x∈g,x∈l:=fun x hx=>by rw[<- h1];exact Ecb _ hx
  have hle:=hl _ (hml _ hh);rw[Jt4 hg] at h4 h5;simp only at h4 h5;by_cases hc:cmpT (Jq3 ks a) (Jq3 ks (g.headD 0))=0
  ·rw[if_neg (fun h=>h.2 hc)];have hk:=Jzv (Jtb ok a) (Jtb ok _) hc;have hd:((g ++ [a]).headD 0)=g.headD 0:=by
    cases g with
    | nil=>exact absurd rfl hg
    | cons x g=>rfl
   refine ⟨by rw[<- Ea2,h1],fun _=>by simp,h3,?_,?_⟩
   ·rw[Jt4 sm];intro q hq i hi;rcases Eax.1 hq with hq | hq
    ·exact h4 q (Eb9 _ hq) i hi
    ·simp only[Ea0] at hq;subst hq;rw[hd];rcases Eax.1 hi with hi | hi
     ·exact h4 g (Ecb _ (Ea0.2 rfl)) i hi
     ·simp only[Ea0] at hi;subst hi;exact hk
   ·rw[Jt4 sm];simp only;rw[Eci] at h5 ⊢;refine ⟨h5.1,by simp,fun q hq r hr=>?_⟩;simp only[Ea0] at hr;subst hr;rw[hd];exact h5.2.2 q hq g (Ea0.2 rfl)
  ·rw[if_pos ⟨hg,hc⟩];have hlt:cmpT (Jq3 ks (g.headD 0)) (Jq3 ks a)<0:=by
    rw[J0g (Jtb ok _) (Jtb ok _)] at hc;omega
   refine ⟨by rw[List.flatten_append,List.flatten_cons,List.flatten_nil,Eaw,h1],fun _=>by simp,fun q hq=>?_,?_,?_⟩
   ·rcases Eax.1 hq with hq | hq
    ·exact h3 q hq
    ·simp only[Ea0] at hq;subst hq;exact hg
   ·rw[Jt4 sm];intro q hq i hi;rcases Eax.1 hq with hq | hq
    ·exact h4 q hq i hi
    ·simp only[Ea0] at hq;subst hq;simp only[Ea0] at hi;subst hi;rfl
   ·rw[Jt4 sm];simp only;rw[Eci];refine ⟨h5,by simp,fun q hq r hr=>?_⟩;simp only[Ea0] at hr;subst hr;show cmpT (Jq3 ks (q.headD 0)) (Jq3 ks a)<0;rcases Eax.1 hq with hq' | hq'
    ·exact J1v (Jtb ok _) (Jtb ok _) (Jtb ok _) ((Eci.1 h5).2.2 q hq' g (Ea0.2 rfl)) hlt
    ·simp only[Ea0] at hq';subst hq';exact hlt
theorem Jxk {ks:List Tree} (ok:okK ks) {l:List Nat} (hl:l.Pairwise fun a b=>cmpT (Jq3 ks a) (Jq3 ks b)<=0):∀ i,i<=l.length->GInv ks (l.take i) (Jrj ks (l.take i))
 | 0,_=>by
  rw[Eb7];exact ⟨rfl,fun h=>absurd rfl h,fun _ h=>(by cases h),fun _ h=>by simp[Jrj,Jrp] at h,by simp[Jrj,Jrp]⟩
 | i+1,h=>by
  obtain ⟨a,ha⟩:∃ a,l[i]? = some a:=⟨_,Eaa omg⟩
  rw[Jye ha,Ebc,ha,Option.toList_some];refine Kb8 ok (Jxk ok hl i omg) fun x hx=>?_
  have h2:(l.take i ++ [a]).Pairwise fun a b=>cmpT (Jq3 ks a) (Jq3 ks b)<=0:=by
   have h3:(l.take (i+1)).Pairwise fun a b=>cmpT (Jq3 ks a) (Jq3 ks b)<=0:=List.Pairwise.sublist (List.take_sublist _ _) hl
   rw[Ebc,ha,Option.toList_some] at h3;exact h3
  exact (Eci.1 h2).2.2 x hx a (Ea0.2 rfl)
theorem J6h {ks:List Tree} (ok:okK ks):(Jra ks).Pairwise fun a b=>cmpT (Jq3 ks a) (Jq3 ks b)<=0 :=
 (Jz2 ok).imp fun {a b} e=>by
  unfold ltB at e;rw[decide_eq_true_eq] at e;omega
theorem Jt6 {ks:List Tree} (ok:okK ks):GInv ks (Jra ks) (Jrj ks (Jra ks)):=by
 have:=Jxk ok (J6h ok) (Jra ks).length (Eah _);rw[Edc] at this;exact this
theorem Jv2 {ks:List Tree} {l:List Nat} {st:List (List Nat)×List Nat} (h:GInv ks l st):(Jrp st).flatten=l:=by
 obtain ⟨o,g⟩:=st;have h1:=h.flat;unfold Jrp;simp only at h1 ⊢;split
 ·rename_i e;rw[e,Eaw] at h1;exact h1
 ·rw[List.flatten_append,List.flatten_cons,List.flatten_nil,Eaw];exact h1
theorem J23 {ks:List Tree} {l:List Nat} {st:List (List Nat)×List Nat} (h:GInv ks l st):∀ g∈Jrp st,g≠[]:=by
 obtain ⟨o,g⟩:=st;intro q hq;unfold Jrp at hq;simp only at hq;split at hq
 ·exact h.ne q hq
 ·rcases Eax.1 hq with hq | hq
  ·exact h.ne q hq
  ·simp only[Ea0] at hq;subst hq;assumption
theorem Kc0 (l:List Tree) (gs:List (List Nat)):(gs.map (Jqo l)).flatten=Jqo l gs.flatten:=by
 unfold Jqo;rw[List.map_flatten]
end Go.LX
namespace Go.LX
open Go Go.RowKit Go.Proofs Go.Proofs.Tryz
attribute [local irreducible] Al SWP Bi
structure NodeFitC (n:Node):Prop where
 s:n.s.length<=1000000
 e0:-9223372036854775808<=n.e
 e1:n.e<=9223372036854775807
theorem Jy2 (n:Node) (hnm:n.name≠[]):Det cx 24 [.p (.sl [[.int .i64 n.kind,.int .i64 n.many,.str n.name,.str n.s,.bool n.neg,.int .i64 n.e]])] [] (.p (.bool false)) []:=by
 have hg0:([[PV.int .i64 n.kind,PV.int .i64 n.many,PV.str n.name,PV.str n.s,PV.bool n.neg,PV.int .i64 n.e]]:List (List PV))[0]? = some [PV.int .i64 n.kind,PV.int .i64 n.many,PV.str n.name,PV.str n.s,PV.bool n.neg,PV.int .i64 n.e]:=rfl;have c2:(n.name=[])=False:=eq_false hnm;have hN:=Uv [n] sm;rw[show valL [n]=[[.int .i64 n.kind,.int .i64 n.many,.str n.name,.str n.s,.bool n.neg,.int .i64 n.e]] from rfl] at hN;(refine bgo func24 ?_;simp only[go_sem,simprocAttr,hg0,c2,Ead,Ea8])
 skip
theorem Jre {c:Node}:c=Juf ↔ c.kind=0/\c.many=0/\c.name=[]/\c.s=[]/\c.neg=false/\c.e=0:=by
 rw[<- Qo];rfl
end Go.LX
namespace Go.LX
open Go Go.RowKit Go.Proofs
attribute [local irreducible] Al SWP Bi
structure RowFit (r:YRow):Prop where
 s:r.s.length<=1000000
 name:r.name.length<=1000000
 c:NodeFitC r.c
end Go.LX
namespace Go.LX
open Go
def incR:List UInt8->List UInt8
 | []=>[]
 | c :: r=>if c=57 then 48 :: incR r else (c+1) :: r
def decR:List UInt8->List UInt8
 | []=>[]
 | c :: r=>if c=48 then 57 :: decR r else (c - 1) :: r
def moreS (s:List UInt8):List UInt8:=(incR (48 :: s).reverse).reverse
def lessS (s:List UInt8):List UInt8:=(decR s.reverse).reverse
def Kbf (n:Node) (e:Int):List UInt8:=n.s ++ List.replicate (n.e - e).toNat 48
def topR (n:Node) (above:Bool):Int:=if (n.neg != above)=false/\n.s=[49] then (n.s.length:Int)+n.e - 1 else n.s.length+n.e
def J6g (n:Node) (above:Bool):Int:=max (topR n above - 100) (-1000)
def J60 (n:Node) (above:Bool):List UInt8:=if (n.neg != above)=true then moreS (Kbf n (J6g n above)) else lessS (Kbf n (J6g n above))
def Kbn (n:Node) (above:Bool):Option Node :=
 if n.s=[] then some ⟨3,0,[],[49],!above,-1000⟩
 else if (make n.neg (J60 n above) (J6g n above)).2=0 then some (make n.neg (J60 n above) (J6g n above)).1 else none
def numC (a:Int×Node):List Node:=if a.2.kind=3 then a.2 :: ((Kbn a.2 true).toList ++ (Kbn a.2 false).toList) else []
def strC (a:Int×Node):List Node:=if a.2.kind=4 then [a.2,⟨4,0,[],a.2.s ++ [0],false,0⟩] else []
def J7b (k:Int):Node:=⟨k,0,[],[],false,0⟩
def candA (l:List (Int×Node)):List Node:=[J7b 0,J7b 1,J7b 2,J7b 3] ++ l.flatMap numC
def candR (l:List (Int×Node)):List Node:=candA l ++ [J7b 4] ++ l.flatMap strC
theorem Kf8:∀ s,(incR s).length=s.length
 | []=>rfl
 | c :: r=>by unfold incR;split<;>simp[Kf8 r]
theorem Ked:∀ s,(decR s).length=s.length
 | []=>rfl
 | c :: r=>by unfold decR;split<;>simp[Ked r]
end Go.LX
namespace Go.LX
open Go Go.Proofs Go.RowKit
def stepAt (x y:UInt8) (pre:List UInt8) (c:UInt8) (j r:Nat):List UInt8:=pre ++ c :: (List.replicate (r - j) x ++ List.replicate j y)
end Go.LX
namespace Go.LX
open Go
end Go.LX
namespace Go.LX
open Go Go.RowKit Go.Proofs
attribute [local irreducible] Al SWP Bi
def Ke8 (l:List YRow):List (Int×Node):=l.map fun r=>(r.n,r.c)
def atomsIn (v:List YRow) (i m:Nat):List (Int×Node):=Ke8 ((v.drop (i+1)).take m)
def shortY (r:YRow):Bool:=decide (r.s.length<=100) && (decide (r.name.length<=100) && decide (r.c.s.length<=100))
def Jyz (v:List YRow) (m:Nat):Bool:=decide (v.length<=m) && v.all shortY
structure ERow (r:YRow):Prop where
 s:r.s.length<=9223372036854775807
 name:r.name.length<=9223372036854775807
 cs:r.c.s.length<=9223372036854775807
 e0:-9223372036854775808<=r.c.e
 e1:r.c.e<=9223372036854775807
def nameR (nm:List UInt8):List YRow->List YRow
 | []=>[]
 | r :: rs=>⟨r.kind,r.many,nm,r.s,r.n,r.c⟩ :: rs
def Klm (ns:List (List UInt8)) (ls:List (List YRow)) (i:Nat):List YRow:=if i<ns.length then nameR (ns.getD i []) (ls.getD i []) else ls.getD i []
def Kl4 (ns:List (List UInt8)) (ls:List (List YRow)):Nat->List YRow
 | 0=>[]
 | i+1=>Kl4 ns ls i ++ Klm ns ls i
def Klu (y:YRow) (ns:List (List UInt8)) (ls:List (List YRow)):List YRow:=⟨y.kind,ls.length,y.name,y.s,y.n,y.c⟩ :: Kl4 ns ls ls.length
def Kk6 (ls:List (List YRow)):List (List PV):=ls.map fun v=>[.sl (rowL v)]
def namesL (ns:List (List UInt8)):List (List PV):=ns.map fun s=>[.str s]
@[simp] theorem Kmb (ls:List (List YRow)):(Kk6 ls).length=ls.length:=by simp[Kk6]
theorem Klp {ls:List (List YRow)} {i:Nat} {v:List YRow} (h:ls[i]? = some v):(Kk6 ls)[i]? = some [.sl (rowL v)]:=by simp[Kk6,h]
def rfL:List RKT->RF
 | []=>.nil
 | p :: l=>.cons p.1 p.2 (rfL l)
theorem Js7:∀ l:List RKT,(rfL l).enc=l.flatMap fun p=>p.2.enc p.1
 | []=>Jsd
 | p :: l=>by rw[rfL,Jqv,Js7 l];rfl
theorem nameR_enc (nm:List UInt8) (t:RT):nameR nm (t.enc [])=t.enc nm:=by
 cases t with
 | mk k s n c kids=>rw[Jqs,Jqs];rfl
def sameL (ns:List (List UInt8)) (t:RT):List RKT:=ns.map fun nm=>(nm,t)
theorem Kgq (P:Tree->Bool):∀ l:List KT,tupS (List.replicate l.length P) l=allP P l
 | []=>rfl
 | q :: l=>by
  rw[Ead,List.replicate_succ,tupS,Kgq P l];rfl
def unT (l:List Tree):List KT:=l.map fun t=>([],t)
def listT (l:List Tree):Tree:=.mk 5 [] false 0 (A1 (unT l))
def Jqe (t:Tree):List Tree:=t.kids.list.map (·.2)
theorem Khq (l:List Tree):Jqe (listT l)=l:=by
 unfold Jqe listT Tree.kids unT;rw[Hd,Ebx];exact List.map_id' l
theorem Kin (l:List Tree):(listT l).kind=5:=rfl
theorem Kgc {l:List Tree} (h:okK l):okT (listT l):=by
 unfold listT;rw[Lu,Ca,Hd,Jdo,Hd];have hn:∀ p∈unT l,p.1=[]:=fun p hp=>by obtain ⟨t,_,rfl⟩:=Eap.1 hp;rfl
 refine ⟨by simp[G3],⟨fun _=>hn,fun p hp=>?_,fun h=>by omega⟩,fun p hp=>?_⟩
 ·rw[hn p hp];rfl
 ·obtain ⟨t,ht,rfl⟩:=Eap.1 hp;exact h t ht
theorem Jyu {t:Tree} (ok:okT t):okK (Jqe t):=by
 intro x hx;obtain ⟨k,s,g,e,kids⟩:=t;obtain ⟨p,hp,rfl⟩:=Eap.1 hx;exact Jvb ok hp
def Jru (p:List Step):List Tree->Except Nat (List Tree)
 | []=>.ok []
 | t :: l=>match Jrd p t with
  | .error e=>.error e
  | .ok u=>match Jru p l with
   | .error e=>.error e
   | .ok ks=>.ok (u :: ks)
def Jte (grp:Bool) (s:List UInt8) (v:Tree):Except Nat Tree :=
 if v.kind=5 then (match Jru (Je s).1 (Jqe v) with
  | .error e=>.error e
  | .ok ks=>.ok (if grp=true then listT ((Jri ks).map fun g=>listT (Jqo (Jqe v) g)) else listT (Jqo (Jqe v) (Jra ks)))) else .error 5
theorem allP_kids {P:Tree->Bool} {l:List KT}:allP P l=true ↔ ∀ x∈l.map (·.2),P x=true:=by
 unfold allP;rw[Eby,List.forall_mem_map]
theorem keysT_map (s:List UInt8) (l:List KT):J26 s l=(l.map (·.2)).map (keyT s):=by
 unfold J26;rw[Ebx];rfl
theorem sameT_iff {a b:Tree}:Kec a b=true ↔ a=b:=by
 unfold Kec;rw[decide_eq_true_eq];exact ⟨fun h=>(Jmz h).2,fun h=>by rw[h]⟩
instance (v:Tree):Decidable (v.kind=5/\∀ x∈Jqe v,x.kind=5):=inferInstance
def strT (s:List UInt8):Tree:=.mk 4 s false 0 .nil
def Jso (key x:Tree):Tree:=.mk 6 [] false 0 (.cons sKey key (.cons sVal x .nil))
def numV (n:Nat):Tree:=if n=0 then .mk 3 [] false 0 .nil else .mk 3 (Jqy (Lib.decDigits n)) false (((Lib.decDigits n).length - (Jqy (Lib.decDigits n)).length:Nat):Int) .nil
def Jr6 (l:List KT):List Tree:=l.map fun p=>Jso (strT p.1) p.2
def Jr3:Nat->List KT->List Tree
 | _,[]=>[]
 | i,p :: l=>Jso (numV i) p.2 :: Jr3 (i+1) l
def toE (v:Tree):Except Nat Tree:=if v.kind=6 then .ok (listT (Jr6 v.kids.list)) else if v.kind=5 then .ok (listT (Jr3 0 v.kids.list)) else .error 5
def entR:Tree->Option (List UInt8×Tree)
 | .mk k _ _ _ kids=>if k=6 then (match Ch sKey kids.list with
  | some (.mk k' s' _ _ _)=>if k'=4 then some (s',(Ch sVal kids.list).getD nilT) else none
  | none=>none) else none
theorem Jzf {k:Int} {s:List UInt8} {g:Bool} {e:Int} {kids:Forest}:entR (.mk k s g e kids)=if k=6 then (match Ch sKey kids.list with
  | some (.mk k' s' _ _ _)=>if k'=4 then some (s',(Ch sVal kids.list).getD nilT) else none
  | none=>none) else none:=rfl
def Jt2:List Tree->List KT->Option (List KT)
 | [],out=>some out
 | t :: l,out=>match entR t with
  | none=>none
  | some p=>Jt2 l (putL p.1 p.2 (A8 p.1 out))
def Jud (v:Tree):Except Nat Tree:=if v.kind=5 then (match Jt2 (Jqe v) [] with
 | some l=>.ok (nd 6 l)
 | none=>.error 5) else .error 5
end Go.LX
namespace Go.LX
open Go
def Jrm (op:Int):Prop:=16<=op/\op<=19
instance (op:Int):Decidable (Jrm op):=by unfold Jrm;infer_instance
def J14 (s:List UInt8):Prop:=(Je s).2.2=0
instance (s:List UInt8):Decidable (J14 s):=by unfold J14;infer_instance
instance (c:Node):Decidable (Js2 c):=by unfold Js2;infer_instance
def Jqq (op:Int) (s:List UInt8) (n:Int) (c:Node) (m:Int):Prop :=
 if op=0\/op=10\/op=11\/op=14 then s=[]/\n=0/\c=Juf/\m=0
 else if op=1 then n=0/\c=Juf/\m=0/\valid s=true
 else if op=2\/op=3 then s=[]/\c=Juf/\m=0/\0<=n/\n<=1000000
 else if op=4\/op=17\/op=18 then s=[]/\n=0/\c=Juf/\m=2
 else if op=5\/op=6\/op=7\/op=19 then s=[]/\n=0/\c=Juf/\m=1
 else if op=8\/op=9 then s=[]/\n=0/\c=Juf/\0<=m
 else if op=12\/op=13\/op=15 then n=0/\c=Juf/\m=0/\J14 s
 else if op=16 then m=0/\J14 s/\0<=n/\n<=5/\Js2 c
 else False
def Kft (op:Int) (p:RKT):Prop:=(Jrm p.2.kind ↔ Jrm op\/op=7)/\(op≠8->p.1=[])/\(op=8->valid p.1=true)
def Jsy (op:Int) (l:List RKT):Prop:=(∀ p∈l,Kft op p)/\(op=4->∀ p,l.head? = some p->p.2.kind≠4)/\(op=8->(l.map (·.1)).Nodup)
mutual
def okQ:RT->Prop
 | .mk op s n c kids=>Jqq op s n c kids.len/\Jsy op kids.list/\okQF kids
def okQF:RF->Prop
 | .nil=>True
 | .cons _ t r=>okQ t/\okQF r
end
theorem Jwl {k:Int} {s:List UInt8} {n:Int} {c:Node} {kids:RF}:okQ (.mk k s n c kids) ↔ Jqq k s n c kids.len/\Jsy k kids.list/\okQF kids:=by rw[okQ]
theorem Jvi {nm:List UInt8} {t:RT} {r:RF}:okQF (.cons nm t r) ↔ okQ t/\okQF r:=by rw[okQF]
theorem Jvm:okQF .nil:=by rw[okQF];trivial
theorem J8p:∀ {a b:RF},okQF (a.app b) ↔ okQF a/\okQF b
 | .nil,b=>by simp[RF.app,Jvm]
 | .cons nm t r,b=>by rw[RF.app,Jvi,Jvi,J8p (a:=r)];exact and_assoc.symm
theorem Kcy {nm:List UInt8} {k:Int} {s:List UInt8} {n:Int} {c:Node} {kids r:RF}:okQF (.cons nm (.mk k s n c kids) r) ↔ Jqq k s n c kids.len/\Jsy k kids.list/\okQF (kids.app r):=by
 rw[Jvi,Jwl,J8p];constructor
 ·rintro ⟨⟨h1,h2,h3⟩,h5⟩;exact ⟨h1,h2,h3,h5⟩
 ·rintro ⟨h1,h2,h3,h5⟩;exact ⟨⟨h1,h2,h3⟩,h5⟩
theorem Jsn:∀ {f:RF},okQF f ↔ ∀ p∈f.list,okQ p.2
 | .nil=>by simp[RF.list,Jvm]
 | .cons nm t r=>by rw[Jvi,Jsn (f:=r),RF.list,List.forall_mem_cons]
def J3b (v:List YRow):Prop:=∃ t,okQ t/\v=t.enc []
def J6t (v:List YRow):Prop:=∃ t,okQ t/\¬ Jrm t.kind/\v=t.enc []
open Classical in
noncomputable def Juz (v:List YRow):Bool:=decide (J3b v)
open Classical in
noncomputable def Jtz (v:List YRow):Bool:=decide (J6t v)
theorem Ju6 {v:List YRow}:Juz v=true ↔ J3b v:=by unfold Juz;exact @decide_eq_true_iff _ (Classical.propDecidable _)
theorem Jwr {v:List YRow}:Jtz v=true ↔ J6t v:=by unfold Jtz;exact @decide_eq_true_iff _ (Classical.propDecidable _)
theorem Jva {v:List YRow} (h:¬ J3b v):false=Juz v:=by
 cases hb:Juz v with
 | false=>rfl
 | true=>exact absurd (Ju6.1 hb) h
theorem Jxy {v:List YRow} (h:¬ J6t v):false=Jtz v:=by
 cases hb:Jtz v with
 | false=>rfl
 | true=>exact absurd (Jwr.1 hb) h
theorem J9l {t:RT}:J3b (t.enc []) ↔ okQ t:=by
 constructor
 ·rintro ⟨u,hu,h⟩;obtain ⟨_,rfl⟩:=Kep h;exact hu
 ·exact fun h=>⟨t,h,rfl⟩
theorem J3e {t:RT}:J6t (t.enc []) ↔ okQ t/\¬ Jrm t.kind:=by
 constructor
 ·rintro ⟨u,hu,hk,h⟩;obtain ⟨_,rfl⟩:=Kep h;exact ⟨hu,hk⟩
 ·exact fun h=>⟨t,h.1,h.2,rfl⟩
theorem J8s {v:List YRow} (h:J3b v):Jtm v 0 1=v.length:=by
 obtain ⟨t,_,rfl⟩:=h;have:=J8d.2 ⟨[],t,rfl⟩;unfold Jtm;rw[Ebn,this];simp
end Go.LX
namespace Go.LX
open Go Go.RowKit Go.Proofs
attribute [local irreducible] Al SWP Bi
def Jub (s:List UInt8):Nat->Nat->List (List UInt8)
 | 0,_=>[]
 | f+1,i=>if i<s.length then (s.drop i).take (max (rlen s i) 1) :: Jub s f (i+max (rlen s i) 1) else []
def Jrx (s:List UInt8):List (List UInt8):=Jub s (s.length+1) 0
def revE:Tree->Except Nat Tree
 | .mk k s _ _ kids=>if k=0 then .ok (listT []) else if k=5 then .ok (listT (kids.list.map (·.2)).reverse) else if k=4 then .ok (strT (Jrx s).reverse.flatten) else .error 5
def Jue (n:Nat):Tree->Except Nat Tree
 | .mk k s _ _ kids=>if k=0 then .ok nilT else if k=5 then .ok (listT ((kids.list.map (·.2)).drop n)) else if k=4 then .ok (strT ((Jrx s).drop n).flatten) else .error 5
def J01:Tree->Step->Tree
 | .mk k _ _ _ kids,x=>if x.part=true then listT ((kids.list.map (·.2)).eraseIdx x.n.toNat) else nd k (A8 x.name kids.list)
def delT:List Step->Tree->Except Nat Tree
 | [],_=>.ok nilT
 | x :: p,t=>if t.kind=0 then .ok t else match inT t x with
  | .error e=>if e=6 then .ok t else .error 5
  | .ok u=>if p=[] then .ok (J01 t x) else match delT p u with
   | .error e=>.error e
   | .ok w=>setT [x] t w
def mapE (f:Tree->Except Nat Tree):List Tree->Except Nat (List Tree)
 | []=>.ok []
 | t :: l=>match f t with
  | .error e=>if e=5 then .error 5 else mapE f l
  | .ok u=>match mapE f l with
   | .error e=>.error e
   | .ok us=>.ok (u :: us)
def mapN (f:Tree->Except Nat Tree):List KT->Except Nat (List KT)
 | []=>.ok []
 | q :: l=>match f q.2 with
  | .error e=>if e=5 then .error 5 else mapN f l
  | .ok u=>match mapN f l with
   | .error e=>.error e
   | .ok us=>.ok ((q.1,u) :: us)
def Jr7 (f:Tree->Except Nat Tree) (vals:Bool) (v:Tree):Except Nat Tree :=
 if v.kind=5\/v.kind=6 then (if vals=true/\v.kind=6 then (match mapN f v.kids.list with
  | .error e=>.error e
  | .ok l=>.ok (nd 6 l)) else match mapE f (Jqe v) with
  | .error e=>.error e
  | .ok l=>.ok (listT l)) else .error 5
def Jrn (obj:Bool) (v:Tree):List (Tree->Except Nat Tree)->Except Nat (List Tree)
 | []=>.ok []
 | f :: fs=>match f v with
  | .error e=>if e=5\/obj=true then .error e else Jrn obj v fs
  | .ok u=>match Jrn obj v fs with
   | .error e=>.error e
   | .ok us=>.ok (u :: us)
def Jrr (obj:Bool) (ns:List (List UInt8)) (fs:List (Tree->Except Nat Tree)) (v:Tree):Except Nat Tree:=match Jrn obj v fs with
 | .error e=>.error e
 | .ok l=>.ok (if obj=true then nd 6 (Lp (ns.zip l)) else listT l)
def J15 (op:Int) (s:List UInt8) (n:Int) (c:Node) (hs:List (Tree->Except Nat Bool)) (v:Tree):Except Nat Bool :=
 if op=16 then (match Jrd (Je s).1 v with
  | .error e=>.error e
  | .ok x=>.ok (J0l n (cmpT x (ndT c)))) else match hs with
  | []=>.ok false
  | h :: hs=>match h v with
   | .error e=>.error e
   | .ok a=>if op=19 then .ok (!a) else if a=decide (op=18) then .ok a else match hs with
    | []=>.ok false
    | h2 :: _=>h2 v
mutual
def Jrf:RT->Tree->Except Nat Bool
 | .mk op s n c kids=>fun v=>J15 op s n c (Jrb kids) v
def Jrb:RF->List (Tree->Except Nat Bool)
 | .nil=>[]
 | .cons _ t r=>Jrf t :: Jrb r
end
theorem Jwx {op:Int} {s:List UInt8} {n:Int} {c:Node} {kids:RF} {v:Tree}:Jrf (.mk op s n c kids) v=J15 op s n c (Jrb kids) v:=by rw[Jrf]
theorem Kce:Jrb .nil=[]:=by rw[Jrb]
theorem Kan {nm:List UInt8} {t:RT} {r:RF}:Jrb (.cons nm t r)=Jrf t :: Jrb r:=by rw[Jrb]
theorem Jtr:∀ f:RF,Jrb f=f.list.map fun p=>Jrf p.2
 | .nil=>by rw[Kce];rfl
 | .cons nm t r=>by rw[Kan,Jtr r];rfl
def Jrv (op:Int) (s:List UInt8) (n:Int) (ns:List (List UInt8)) (es:List (Tree->Except Nat Tree)) (hs:List (Tree->Except Nat Bool)) (v:Tree):Except Nat Tree :=
 if op=0 then .ok v
 else if op=1 then Jrc ⟨false,s,0⟩ v
 else if op=2 then Jrc ⟨true,[],n⟩ v
 else if op=3 then Jue n.toNat v
 else if op=5\/op=6 then Jr7 (es.headD fun _=>.error 5) (decide (op=6)) v
 else if op=8\/op=9 then Jrr (decide (op=8)) ns es v
 else if op=10 then toE v
 else if op=11 then Jud v
 else if op=12\/op=13 then Jte (decide (op=12)) s v
 else if op=14 then revE v
 else if op=15 then delT (Je s).1 v
 else if op=7 then (match (hs.headD fun _=>.error 5) v with
  | .error e=>.error e
  | .ok b=>if b=true then .ok v else .error 6)
 else match (es.headD fun _=>.error 5) v with
  | .error e=>.error e
  | .ok x=>(es.getD 1 fun _=>.error 5) x
mutual
def Jql:RT->Tree->Except Nat Tree
 | .mk op s n _ kids=>fun v=>Jrv op s n (kids.list.map (·.1)) (Jqp kids) (Jrb kids) v
def Jqp:RF->List (Tree->Except Nat Tree)
 | .nil=>[]
 | .cons _ t r=>Jql t :: Jqp r
end
theorem Jww {op:Int} {s:List UInt8} {n:Int} {c:Node} {kids:RF} {v:Tree}:Jql (.mk op s n c kids) v=Jrv op s n (kids.list.map (·.1)) (Jqp kids) (Jrb kids) v:=by rw[Jql]
theorem Kcl:Jqp .nil=[]:=by rw[Jqp]
theorem J9p {nm:List UInt8} {t:RT} {r:RF}:Jqp (.cons nm t r)=Jql t :: Jqp r:=by rw[Jqp]
theorem Jrs:∀ f:RF,Jqp f=f.list.map fun p=>Jql p.2
 | .nil=>by rw[Kcl];rfl
 | .cons nm t r=>by rw[J9p,Jrs r];rfl
def natL (S:List Nat):List (List PV):=S.map fun (i:Nat)=>[.int .i64 (i:Int)]
@[simp] theorem Jqx (S:List Nat):(natL S).length=S.length:=by simp[natL]
theorem Juk {S:List Nat} {k i:Nat} (h:S[k]? = some i):(natL S)[k]? = some [.int .i64 (i:Int)]:=by simp[natL,h]
theorem Jvf (a b:List Nat):natL (a ++ b)=natL a ++ natL b:=by simp[natL]
theorem Jrl (a b:List Tree):Jqd (a ++ b)=Jqd a ++ Jqd b:=by simp[Jqd]
@[simp] theorem Kf4 (l:List Tree):Jqo l []=[]:=rfl
@[simp] theorem J0h:Jqd []=[]:=rfl
@[simp] theorem J28:natL []=[]:=rfl
theorem J0c (ks:List Tree):Jrj ks []=([],[]):=rfl
theorem J3c (l:List Tree) (S:List Nat):(Jqo l S).length=S.length:=by simp[Jqo]
theorem Jwd (S:List Nat):∀ q∈natL S,q.length=1:=by
 intro q hq;obtain ⟨i,_,rfl⟩:=Eap.1 hq;rfl
theorem Jvr (l:List Tree):∀ q∈Jqd l,q.length=1:=by
 intro q hq;obtain ⟨i,_,rfl⟩:=Eap.1 hq;rfl
def Jro (o:List (List Nat)):List (List PV):=o.map fun g=>[.sl (natL g)]
@[simp] theorem groupL_nil:Jro []=[]:=rfl
@[simp] theorem Js8 (o:List (List Nat)):(Jro o).length=o.length:=by simp[Jro]
theorem J1n {o:List (List Nat)} {k:Nat} {g:List Nat} (h:o[k]? = some g):(Jro o)[k]? = some [.sl (natL g)]:=by simp[Jro,h]
theorem J4o {ks:List Tree} {l:List Nat} {st:List (List Nat)×List Nat} (h:GInv ks l st):st.1.length+st.2.length<=l.length:=by
 have h1:=congrArg List.length h.flat;rw[Eac] at h1;have h2:∀ {o:List (List Nat)},(∀ g∈o,g≠[])->o.length<=o.flatten.length:=by
  intro o
  induction o with
  | nil=>intro _;simp
  | cons g o ih =>
   intro h;have:=ih fun q hq=>h q (Eai _ hq)
   have hg:=h g Eaf;have:0<g.length:=Ecj.2 hg;rw[Ead,List.flatten_cons,Eac];omega
 have:=h2 h.ne;omega
def Jqn (l:List Tree):Nat:=(l.map fun t=>(t.enc []).length).sum
theorem J3y:Jqn []=0:=rfl
theorem Jq8 (t:Tree) (l:List Tree):Jqn (t :: l)=(t.enc []).length+Jqn l:=by simp[Jqn]
theorem Jtk (a b:List Tree):Jqn (a ++ b)=Jqn a+Jqn b:=by simp[Jqn]
theorem J1d:∀ l:List Tree,(A1 (unT l)).enc.length=Jqn l
 | []=>by
  rw[show A1 (unT [])=.nil from rfl,Bl];rfl
 | t :: l=>by
  rw[show A1 (unT (t :: l))=.cons [] t (A1 (unT l)) from rfl,A0,Eac,J1d l,Jq8]
theorem Jsb (l:List Tree):((listT l).enc []).length=Jqn l+1:=by
 unfold listT;rw[A6,Ead,J1d]
theorem J3z (l:List Tree):Jqd l=A4 (unT l):=by
 unfold Jqd A4 unT;rw[Ebx];rfl
theorem Jst (l:List KT):A4 l=Jqd (l.map (·.2)):=by
 unfold Jqd A4;rw[Ebx];rfl
theorem J1i (l:List Tree):unn (unT l)=unT l:=by
 unfold unn unT;rw[Ebx];rfl
theorem Jq1 (t:Tree):Jqn (Jqe t)+1=(t.enc []).length:=by
 obtain ⟨k,s,g,e,kids⟩:=t;rw[A6,Ead];have:∀ f:Forest,Jqn (f.list.map (·.2))=f.enc.length:=by
  intro f
  induction f using Forest.rec (motive_1:=fun _=>True) with
  | mk=>trivial
  | nil=>rw[Bl];rfl
  | cons nm t r _ ih=>rw[A0,Eac,Forest.list,Eaq,Jq8,ih,G7 t nm]
 show Jqn (kids.list.map (·.2))+1=_;rw[this]
theorem Jrh:∀ l:List Tree,l.length<=Jqn l
 | []=>Eah _
 | t :: l=>by
  have:=Jrh l;have:=Et t [];rw[Jq8,Ead];omega
theorem Jr0:∀ {l:List Tree} {t:Tree},t∈l->(t.enc []).length<=Jqn l
 | u :: l,t,h=>by
  rw[Jq8];rcases Eak.1 h with rfl | h
  ·omega
  ·have:=Jr0 h;omega
theorem Ka0 (ks:List Tree) (f:Nat->Nat) (i:Nat):∀ l:List Nat,((insI ks i l).map f).sum=f i+(l.map f).sum
 | []=>by simp[insI]
 | j :: l=>by
  rw[insI];split
  ·rw[Eaq,List.sum_cons,Ka0 ks f i l,Eaq,List.sum_cons];omega
  ·rw[Eaq,List.sum_cons]
theorem J66 (ks:List Tree) (f:Nat->Nat):∀ n:Nat,((Ju9 ks n).map f).sum=((List.range n).map f).sum
 | 0=>rfl
 | n+1=>by rw[Ju9,Ka0,J66 ks f n,Edm,Ebm,List.sum_append];simp;omega
theorem Jxo {l ks:List Tree} (h:ks.length=l.length):Jqn (Jqo l (Jra ks))=Jqn l:=by
 conv=>rhs;rw[<- J9s l]
 unfold Jqn Jqo;rw[Ebx,Ebx];unfold Jra;rw[J66,h]
theorem J4k:∀ gs:List (List Tree),Jqn (gs.map listT)=gs.length+Jqn gs.flatten
 | []=>rfl
 | g :: gs=>by
  rw[Eaq,Jq8,Jsb,J4k gs,Ead,List.flatten_cons,Jtk];omega
theorem row0 (v:Tree):∃ r:Nat->PV,(valL (v.enc []))[0]? = some [.int .i64 v.kind,r 0,r 1,r 2,r 3,r 4]:=by
 obtain ⟨k,s,g,e,kids⟩:=v;exact ⟨fun i=>([.int .i64 kids.len,.str [],.str s,.bool g,.int .i64 e]:List PV).getD i .snil,Cc [] k s g e kids⟩
theorem J6r:okT nilT:=by
 unfold nilT;rw[Lu];exact ⟨by decide,Sb 0,I6⟩
theorem J77 {x:Step} {t u:Tree} (ht:okT t) (h:Jrc x t=.ok u):okT u:=by
 have hk:∀ p∈t.kids.list,okT p.2:=by
  obtain ⟨k,s,g,e,kids⟩:=t;exact fun p hp=>Jvb ht hp
 unfold Jrc at h;split at h
 ·cases h;exact J6r
 ·split at h
  ·split at h
   ·cases h;cases hq:t.kids.list[x.n.toNat]? with
    | none=>exact J6r
    | some p=>exact hk p (Eag hq)
   ·cases h
  ·split at h
   ·cases h;cases hq:Ch x.name t.kids.list with
    | none=>exact J6r
    | some w =>
     obtain ⟨p,hp,rfl,_⟩:=Kj7 hq;exact hk p hp
   ·cases h
theorem Jxm:∀ {p:List Step} {t u:Tree},okT t->Jrd p t=.ok u->okT u
 | [],t,u,ht,h=>by rw[Jrd] at h;cases h;exact ht
 | x :: p,t,u,ht,h=>by
  rw[Jrd] at h;cases hs:Jrc x t with
  | ok w=>rw[hs] at h;exact Jxm (J77 ht hs) h
  | error e=>rw[hs] at h;cases h
theorem Jzo {p:List Step}:∀ {l ks:List Tree},okK l->Jru p l=.ok ks->okK ks/\ks.length=l.length/\∀ n,(∀ t∈l,(t.enc []).length<=n)->∀ t∈ks,(t.enc []).length<=n
 | [],ks,_,h=>by rw[Jru] at h;cases h;exact ⟨fun _ h=>(by cases h),rfl,fun _ _ _ h=>(by cases h)⟩
 | t :: l,ks,ho,h=>by
  rw[Jru] at h;cases hf:Jrd p t with
  | error e=>rw[hf] at h;cases h
  | ok u =>
   rw[hf] at h;cases hk:Jru p l with
   | error e=>rw[hk] at h;cases h
   | ok ks' =>
    rw[hk] at h;cases h;obtain ⟨a,b,c⟩:=Jzo (fun x hx=>ho x (Eai _ hx)) hk;refine ⟨fun x hx=>?_,by rw[Ead,Ead,b],fun n hn x hx=>?_⟩
    ·rcases Eak.1 hx with rfl | hx
     ·exact Jxm (ho t Eaf) hf
     ·exact a x hx
    ·rcases Eak.1 hx with rfl | hx
     ·exact Nat.le_trans (Jxh hf) (hn t Eaf)
     ·exact c n (fun y hy=>hn y (Eai _ hy)) x hx
def preK (us:List Tree):Except Nat (List Tree)->Except Nat (List Tree)
 | .ok ks=>.ok (us ++ ks)
 | .error e=>.error e
theorem J3v {p:List Step} {us l:List Tree} {t u:Tree} (h:Jrd p t=.ok u):preK us (Jru p (t :: l))=preK (us ++ [u]) (Jru p l):=by
 rw[Jru,h];cases Jru p l with
 | ok ks=>simp[preK]
 | error e=>rfl
theorem J7i {grp:Bool} {s:List UInt8} {v:Tree} (h:¬ v.kind=5):Jte grp s v=.error 5:=by unfold Jte;rw[if_neg h]
theorem J91 (l ks:List Tree):((Jri ks).map fun g=>listT (Jqo l g))=((Jri ks).map (Jqo l)).map listT:=by rw[Ebx];rfl
theorem J94 {l ks:List Tree} (ok:okK ks):((Jri ks).map (Jqo l)).flatten=Jqo l (Jra ks):=by
 rw[Kc0];show Jqo l (Jrp (Jrj ks (Jra ks))).flatten=_;rw[Jv2 (Jt6 ok)]
theorem J6z:∀ {gs:List (List Nat)},(∀ g∈gs,g≠[])->gs.length<=gs.flatten.length
 | [],_=>Eah _
 | g :: gs,h=>by
  have:=J6z (gs:=gs) fun q hq=>h q (Eai _ hq)
  have:0<g.length:=Ecj.2 (h g Eaf);rw[Ead,List.flatten_cons,Eac];omega
theorem Jsk:∀ {l:List Nat} {x:Nat},x∈l->x<=l.sum
 | y :: l,x,h=>by
  rw[List.sum_cons];rcases Eak.1 h with rfl | h
  ·omega
  ·have:=Jsk h;omega
theorem Jw1 {l ks:List Tree} (ok:okK ks) (h:ks.length=l.length):Jqn ((Jri ks).map fun g=>listT (Jqo l g))<=2 * Jqn l:=by
 rw[J91,J4k,J94 ok,Jxo h,Ea1];have hn:=J23 (Jt6 ok);have h1:(Jrp (Jrj ks (Jra ks))).length<=(Jrp (Jrj ks (Jra ks))).flatten.length:=J6z hn;rw[Jv2 (Jt6 ok),Jsc,h] at h1;have:=Jrh l;show (Jrp (Jrj ks (Jra ks))).length+_<=_;omega
theorem Jv8 {n:Nat} (h:n≠0):0<(Jqy (Lib.decDigits n)).length:=by
 refine J3k _ _ rfl (Ecj.2 (U6 n)) ?_;cases hd:Lib.decDigits n with
 | nil=>exact absurd hd (U6 n)
 | cons c r =>
  rw[Jy3];intro e;exact h (Jg0 n c r hd e).2
theorem Jzs:∀ {l:List KT} {i k:Nat} {p:KT},l[k]? = some p->(Jr3 i l)[k]? = some (Jso (numV (i+k)) p.2)
 | [],i,k,p,h=>by cases h
 | q :: l,i,0,p,h=>by cases h;rfl
 | q :: l,i,k+1,p,h=>by
  have:=Jzs (l:=l) (i:=i+1) (k:=k) (p:=p) (by simpa using h);rw[Jr3,List.getElem?_cons_succ,this,Nat.add_right_comm,Eb2]
theorem J0a:∀ {l:List KT} {i:Nat},(Jr3 i l).length=l.length
 | [],_=>rfl
 | q :: l,i=>by rw[Jr3,Ead,J0a,Ead]
theorem J5m (key x:Tree):((Jso key x).enc []).length=1+(key.enc []).length+(x.enc []).length:=by
 unfold Jso;rw[A6,Ead,A0,A0,Bl,Eac,Eac,G7 key,G7 x];simp;omega
theorem J5s (n:Nat):((numV n).enc []).length=1:=by
 unfold numV;split<;>rw[A6,Bl]<;>rfl
theorem Jy8 (s:List UInt8):((strT s).enc []).length=1:=by
 unfold strT;rw[A6,Bl];rfl
theorem Jvu:∀ l:List KT,Jqn (Jr6 l)=2 * l.length+Jqn (l.map (·.2))
 | []=>rfl
 | p :: l=>by
  rw[show Jr6 (p :: l)=Jso (strT p.1) p.2 :: Jr6 l from rfl,Jq8,J5m,Jy8,Jvu l,Eaq,Jq8,Ead];omega
theorem Jwj:∀ (l:List KT) (i:Nat),Jqn (Jr3 i l)=2 * l.length+Jqn (l.map (·.2))
 | [],_=>rfl
 | p :: l,i=>by
  rw[Jr3,Jq8,J5m,J5s,Jwj l,Eaq,Jq8,Ead];omega
theorem Jry {α:Type} {l:List α} {k:Nat} {x:α} (h:l[k]? = some x):l.take (k+1)=l.take k ++ [x]:=by rw[Ebc,h,Option.toList_some]
theorem J1c {k:Int} {s:List UInt8} {g:Bool} {e:Int} {kids:Forest} (h:okT (.mk k s g e kids)):0<=k/\k<=6:=by
 have h1:=(Lu.1 h).1;unfold G3 at h1;by_cases a:k=0\/k=1\/k=2
 ·omega
 ·by_cases b:k=3
  ·omega
  ·by_cases c:k=4
   ·omega
   ·by_cases d:k=5\/k=6
    ·omega
    ·rw[if_neg a,if_neg b,if_neg c,if_neg d] at h1;exact h1.elim
theorem J2a {t:Tree} {l:List Tree} {out:List KT}:Jt2 (t :: l) out=match entR t with
  | none=>none
  | some p=>Jt2 l (putL p.1 p.2 (A8 p.1 out)):=by rw[Jt2]<;>rfl
theorem J1u (name:List UInt8) (l:List KT):(A1 (A8 name l)).enc.length<=(A1 l).enc.length:=by
 have:=El name (A1 l);rw[Hd] at this;exact this
theorem Jto {name:List UInt8}:∀ {l:List KT} {p:KT},p∈A8 name l->p∈l/\p.1≠name
 | [],p,h=>by cases h
 | q :: l,p,h=>by
  rw[A8] at h;split at h
  ·have:=Jto h;exact ⟨Eai _ this.1,this.2⟩
  ·rename_i hq;rcases Eak.1 h with rfl | h
   ·exact ⟨Eaf,hq⟩
   ·have:=Jto h;exact ⟨Eai _ this.1,this.2⟩
theorem J4w {l:List Tree} {i:Nat} {t:Tree} (h:l[i]? = some t):Jqn (l.take (i+1))=Jqn (l.take i)+(t.enc []).length:=by
 rw[Jry h,Jtk];simp[Jqn]
theorem Jzg (l:List Tree) (i:Nat):Jqn (l.take i)<=Jqn l:=by
 conv=>rhs;rw[<- Ebk i l,Jtk]
 omega
theorem J8k {k:Int} {s:List UInt8} {g:Bool} {e:Int} {kids:Forest} (h:¬ k=6):entR (.mk k s g e kids)=none:=by rw[Jzf,if_neg h]
theorem J4x {s:List UInt8} {g:Bool} {e:Int} {kids:Forest} (h:Ch sKey kids.list=none):entR (.mk 6 s g e kids)=none:=by rw[Jzf,if_pos rfl,h]
theorem Ka8 {s:List UInt8} {g:Bool} {e:Int} {kids:Forest} {k':Int} {s':List UInt8} {g':Bool} {e':Int} {kids':Forest} (h:Ch sKey kids.list=some (.mk k' s' g' e' kids')) (hk:¬ k'=4):entR (.mk 6 s g e kids)=none:=by
 rw[Jzf,if_pos rfl,h];simp only[if_neg hk]
theorem J76 {s:List UInt8} {g:Bool} {e:Int} {kids:Forest} {s':List UInt8} {g':Bool} {e':Int} {kids':Forest} (h:Ch sKey kids.list=some (.mk 4 s' g' e' kids')):entR (.mk 6 s g e kids)=some (s',(Ch sVal kids.list).getD nilT):=by
 rw[Jzf,if_pos rfl,h];simp only[if_pos]
theorem J24:∀ (f:Nat) (s:List UInt8) (i:Nat),s.length<i+f->(Jub s f i).flatten=s.drop i
 | 0,s,i,h=>by rw[Jub,Eao omg];rfl
 | f+1,s,i,h=>by
  rw[Jub];split
  ·rw[List.flatten_cons,J24 f s _ omg,<- Ebj,Ebk]
  ·rw[Eao omg];rfl
theorem Jxu (R:List (List UInt8)) (i:Nat):(R.drop i).flatten.length<=R.flatten.length:=by
 conv=>rhs;rw[<- Ebk i R,List.flatten_append,Eac]
 omega
theorem Jvx:∀ R:List (List UInt8),R.reverse.flatten.length=R.flatten.length
 | []=>rfl
 | r :: R=>by rw[List.reverse_cons,List.flatten_append,Eac,Jvx R,List.flatten_cons,Eac];simp;omega
theorem Ju7 (s:List UInt8):(Jrx s).flatten=s:=by
 unfold Jrx;rw[J24 _ s 0 omg,Ebn]
@[simp] theorem strL_nil:strL []=[]:=rfl
theorem J2x (s:List UInt8):valL ((strT s).enc [])=[[.int .i64 4,.int .i64 0,.str [],.str s,.bool false,.int .i64 0]]:=by unfold strT;rw[A6,Bl];rfl
end Go.LX
namespace Go.LX
open Go Go.RowKit Go.Proofs Go.Proofs.Tryz
attribute [local irreducible] Al SWP Bi
theorem Kbh {k:Int} {s:List UInt8} {g:Bool} {e:Int} {kids:Forest} (h:okT (.mk k s g e kids)) (h0:k=0):Tree.mk k s g e kids=nilT:=by
 subst h0;obtain ⟨h1,_,_⟩:=Lu.1 h;unfold G3 at h1;rw[if_pos (.inl rfl)] at h1;obtain ⟨a,b,c,d⟩:=h1;subst b c d;rw[Jv4 a];rfl
theorem J1a:Det cx 65 [] [] (.p (.sl (valL (nilT.enc [])))) []:=by
 rw[J7x];(refine bgo func65 ?_;simp only[go_sem,simprocAttr])
 skip
theorem J5u (s:List UInt8):Det cx 85 [.p (.str s)] [] (.p (.sl (valL ((strT s).enc [])))) []:=by
 rw[J2x];(refine bgo func85 ?_;simp only[go_sem,simprocAttr])
 skip
theorem Jz1 (s:List UInt8) (hs:s.length<=1000000):Det cx 45 [.p (.str s)] [] (.p (.sl (Bb (Je s).1))) []:=by
 (refine bgo func45 ?_;simp only[go_sem,simprocAttr]);(repeat'(first|((refine Jqa (Jjx s hs) ?_);simp only[go_sem,simprocAttr])|fail))
@[go_sem] theorem sc_bool {b:Bool}:((PV.bool b).scalar=true)=True:=eq_true rfl
@[go_sem] theorem f_bb6 {parts:List (Nat×L)} {K:L->Prop}:Vf Tryz.prog 123 parts K=(Tryz.prog.cellsOf 4=1/\6=parts.length/\zok (Bu Tryz.prog 123) 6/\Bq (Jw8 0 parts) (kagg K)):=J62 f_u123
theorem Khn (n c:Int) (h0:0<=n) (h5:n<=5):Det cx 61 [.p (.int .i64 n),.p (.int .i64 c)] [] (.p (.bool (J0l n c))) []:=by
 have hn:n=0\/n=1\/n=2\/n=3\/n=4\/n=5:=by omega
 unfold J0l;rcases hn with rfl | rfl | rfl | rfl | rfl | rfl
 all_goals simp only[Int.reduceEq,if_true,if_false]
 ·(refine bgo func61 ?_;simp only[go_sem,simprocAttr])
  all_goals (rw[Ea4];simp)
 ·(refine bgo func61 ?_;simp only[go_sem,simprocAttr])
  all_goals (rw[Ea4];simp)
 ·(refine bgo func61 ?_;simp only[go_sem,simprocAttr])
  all_goals (rw[Ea4];simp)
 ·(refine bgo func61 ?_;simp only[go_sem,simprocAttr])
  all_goals (rw[Ea4];simp)
 ·(refine bgo func61 ?_;simp only[go_sem,simprocAttr])
  all_goals (rw[Ea4];simp)
 ·(refine bgo func61 ?_;simp only[go_sem,simprocAttr])
  all_goals (rw[Ea4];simp)
theorem J8w {x:Step} {t:Tree}:getT [x] t=inT t x:=by
 rw[getT];cases inT t x with
 | ok u=>rfl
 | error e=>rfl
theorem Kbd (x:Step) (v:Tree) (hx:Bc x) (ok:okT v) (hv:(v.enc []).length<=1500000000000):Det cx 36 [.p (.agg [.bool x.part,.str x.name,.int .i64 x.n]),.p (.sl (valL (v.enc [])))] [] (getR (Jrc x v)) []:=by
 obtain ⟨k,s,g,e,kids⟩:=v;have hG:=M1 [x] (.mk k s g e kids) sm (fun y hy=>by simp at hy;subst hy;exact hx) hv;rw[J8w] at hG;have hgv:=Cc [] k s g e kids;obtain ⟨b,nm,n⟩:=x;by_cases h0:k=0
 ·subst h0;rw[J3f,getR,<- Kbh ok rfl];generalize valL ((Tree.mk 0 s g e kids).enc [])=V at *
  cases b with
  | true =>
   (refine bgo func36 ?_;simp only[go_sem,simprocAttr,hgv])
   skip
  | false =>
   (refine bgo func36 ?_;simp only[go_sem,simprocAttr,hgv])
   skip
 ·have e0:=eq_false h0;cases b with
  | true =>
   by_cases h5:k=5
   ·subst h5;rw[Jza];rw[Tm rfl] at hG;simp only at hG;cases hq:kids.list[n.toNat]? with
    | none =>
     rw[hq,getR] at hG;simp only[Option.map_none,Option.getD_none,getR];generalize valL ((Tree.mk 5 s g e kids).enc [])=V at *
     (refine bgo func36 ?_;simp only[go_sem,simprocAttr,hgv]);(repeat'(first|((first|refine Jqa hG ?_|refine Jqa J1a ?_);simp only[go_sem,simprocAttr])|fail))
     all_goals rfl
    | some p =>
     rw[hq,getR] at hG;simp only[Option.map_some,Option.getD_some,getR];generalize valL ((Tree.mk 5 s g e kids).enc [])=V at *
     (refine bgo func36 ?_;simp only[go_sem,simprocAttr,hgv]);(repeat'(first|((refine Jqa hG ?_);simp only[go_sem,simprocAttr])|fail))
     all_goals rfl
   ·have e5:=eq_false h5;rw[J3l h0 h5,getR];generalize valL ((Tree.mk k s g e kids).enc [])=V at *
    (refine bgo func36 ?_;simp only[go_sem,simprocAttr,hgv,e0,e5])
    all_goals rfl
  | false =>
   by_cases h6:k=6
   ·subst h6;rw[Jw4];rw[Tp rfl] at hG;simp only at hG;cases hq:Ch nm kids.list with
    | none =>
     rw[hq,getR] at hG;simp only[Option.getD_none,getR];generalize valL ((Tree.mk 6 s g e kids).enc [])=V at *
     (refine bgo func36 ?_;simp only[go_sem,simprocAttr,hgv]);(repeat'(first|((first|refine Jqa hG ?_|refine Jqa J1a ?_);simp only[go_sem,simprocAttr])|fail))
     all_goals rfl
    | some p =>
     rw[hq,getR] at hG;simp only[Option.getD_some,getR];generalize valL ((Tree.mk 6 s g e kids).enc [])=V at *
     (refine bgo func36 ?_;simp only[go_sem,simprocAttr,hgv]);(repeat'(first|((refine Jqa hG ?_);simp only[go_sem,simprocAttr])|fail))
     all_goals rfl
   ·have e6:=eq_false h6;rw[Jyn h0 h6,getR];generalize valL ((Tree.mk k s g e kids).enc [])=V at *
    (refine bgo func36 ?_;simp only[go_sem,simprocAttr,hgv,e0,e6])
    all_goals rfl
theorem J40 (p:List Step) (v:Tree) (hp:p.length<=1000000) (hok:∀ x∈p,Bc x) (ok:okT v) (hv:(v.enc []).length<=1500000000000):Det cx 20 [.p (.sl (Bb p)),.p (.sl (valL (v.enc [])))] [] (getR (Jrd p v)) []:=by
 (refine bgo func20 ?_;simp only[go_sem,simprocAttr,Aq]);refine SWP.loop (fun x:Nat×Tree=>⟨Ba 28 [(0,.p (.sl (Bb p))),(1,.p (.sl (valL (x.2.enc [])))),(10,.p (.sl (Bb p))),(11,.p (.int .i64 p.length)),(12,.p (.int .i64 x.1))],[]⟩) (fun x=>x.1<=p.length/\okT x.2/\(x.2.enc []).length<=1500000000000/\Jrd (p.drop x.1) x.2=Jrd p v) (fun x=>p.length - x.1) (0,v) Jqc ⟨Eau _,ok,hv,rfl⟩ ?_;rintro ⟨i,u⟩ ⟨h1,hu0,h2,h3⟩;simp only at h1 hu0 h2 h3;by_cases hi:i<p.length
 ·obtain ⟨x,hx⟩:∃ x,p[i]? = some x:=⟨_,Eaa hi⟩
  have hgx:=Dk hx;have hdx:p.drop i=x :: p.drop (i+1):=by rw[Eaz hi];congr 1;rw[Eaa hi] at hx;exact Ebd hx
  have hok':=hok x (Eag hx);rw[hdx,Jrd] at h3;have hin:=Kbd x u hok' hu0 h2;have c1:((i:Int)<(p.length:Int))=True:=eq_true omg;cases hu:Jrc x u with
  | error er =>
   rw[hu,getR] at hin;rw[hu] at h3;have:=Juj hu;subst this;rw[<- h3];simp only[getR];(refine lws ?_;simp only[go_sem,simprocAttr,c1,hgx]);(repeat'(first|((refine Jqa hin ?_);simp only[go_sem,simprocAttr])|fail))
   all_goals rfl
  | ok w =>
   rw[hu,getR] at hin;rw[hu] at h3;have hle:=Jvo hu;have hwo:=J77 hu0 hu;(refine lws ?_;simp only[go_sem,simprocAttr,c1,hgx,wi1 (i:=i) omg]);(repeat'(first|((refine Jqa hin ?_);simp only[go_sem,simprocAttr,wi1 (i:=i) omg])|fail))
   all_goals exact ⟨(i+1,w),⟨by simp only;omega,hwo,by simp only;omega,h3⟩,by simp only;omega,Jqc⟩
 ·have c1:((i:Int)<(p.length:Int))=False:=eq_false omg;rw[show p.drop i=[] from Eao omg,Jrd] at h3;rw[<- h3,getR];(refine lws ?_;simp only[go_sem,simprocAttr,c1])
  all_goals rfl
end Go.LX
namespace Go.LX
open Go Go.RowKit Go.Proofs
abbrev V1:={ v:Value // v.oneCell'=true }
instance:Inhabited V1:=⟨⟨.bool false,rfl⟩⟩
def v1:V1->Value:=Subtype.val
theorem Kak:OneCell v1:=fun x=>x.2
theorem Jy9 {β:Env} {w:World} {Im:Nat->Prop} {T:TypeId} {es:List (List PV)} {n:Nat} {args:List L} {tmps:Array Value} {v:Value} (hf:Fit β w Im ⟨args,[(1000,.row T 1 es)]⟩ tmps) (hv:LRep β w Im v (.own 1000 0 n)) (hn:es.length=n) :
  (n=0/\v=.slice none 0 0)\/∃ loc cap,∃ d:List V1,β 1000=some loc/\v=.slice (some ⟨loc.blk,0,none⟩) n cap/\cap=loc.tot/\d.length=n/\n<=cap/\cap<=maxLen/\Sort.Holds v1 w loc.blk 0 d.toArray /\
   ∀ (i:Nat) (x:V1) (e:List PV),d[i]? = some x->es[i]? = some e->∃ p,e=[p]/\p.scalar=true/\PRep w Im x.1 p:=by
 rcases hv with ⟨loc,cap,o,hβ,h1,h2,h3,rfl⟩ | ⟨hβ,_,h0,rfl⟩
 ·refine .inr ?_;have ho:o=0:=by rw[h3 (.inr rfl),Edf]
  subst ho;rcases hf.regs 1000 _ Eaf with ⟨hb,_⟩ | ⟨loc',cur,hb,g1,g2,g3,g4,g5,g6,g7⟩
  ·rw[hβ] at hb;cases hb
  rw[hβ] at hb;cases hb;rw[Ebo] at h1;have hone:∀ i,i<n->∃ u:Value,∃ p,cur[i]? = some u/\es[i]? = some [p]/\p.scalar=true/\PRep w Im u p:=by
   intro i hi;obtain ⟨e,he⟩:∃ e,es[i]? = some e:=⟨_,Eaa omg⟩
   obtain ⟨q1,q2⟩:=g6 e (Eag he);obtain ⟨p,rfl⟩:∃ p,e=[p]:=by
    cases e with
    | nil=>simp at q1
    | cons p r=>cases r with
     | nil=>exact ⟨p,rfl⟩
     | cons=>simp at q1
   obtain ⟨u,q3,q4⟩:=g7 i _ 0 p he rfl;rw[Ect,Nat.add_zero] at q3;exact ⟨u,p,q3,he,q2 p Eaf,q4⟩
  have hcl:n<=cur.length:=by rw[g3];omega
  have hall:∀ x∈cur.take n,x.oneCell'=true:=by
   intro x hx;obtain ⟨i,hi⟩:=Ebz hx;rw[Eas] at hi;split at hi
   ·rename_i hlt;obtain ⟨u,p,q1,_,q3,q4⟩:=hone i hlt;rw[q1] at hi;cases hi;exact q4.one q3
   ·cases hi
  let d:List V1:=(cur.take n).attach.map fun x=>⟨x.1,hall x.1 x.2⟩
  have hdl:d.length=n:=by simp[d];omega
  have hdv:d.map v1=cur.take n:=by simp[d,v1,Function.comp_def]
  have hdg:∀ (i:Nat) (x:V1),d[i]? = some x->cur[i]? = some x.1:=by
   intro i x hx;have:(d.map v1)[i]? = some x.1:=by rw[Eam,hx];rfl
   rw[hdv,Eas] at this;split at this
   ·exact this
   ·cases this
  refine ⟨loc,cap,d,hβ,rfl,h1,hdl,h2,omg,fun j hj=>?_,fun i x e hx he=>?_⟩
  ·have hj':j<d.length:=by simpa using hj
   have hxj:d[j]? = some d[j]:=Eaa hj';have:=hdg j _ hxj;refine ⟨?_,?_⟩
   ·rw[Ebo];unfold World.cell?;simp only[g2];rw[show d.toArray[j]! = d[j] by simp[hj']];simpa[v1] using this
   ·unfold World.frozen?;simp only[g2];simp
  ·have hi:=(Eab.1 hx).1;obtain ⟨u,p,q1,q2,q3,q4⟩:=hone i omg;have:=hdg i x hx;rw[q1] at this;rw[q2] at he;cases this;cases he;exact ⟨p,rfl,q3,q4⟩
 ·exact .inl ⟨h0,rfl⟩
theorem Jy7 {α:Type} [Inhabited α] {enc:α->Value} {β:Env} {w w':World} {Im:Nat->Prop} {T:TypeId} {es es':List (List PV)} {args:List L} {tmps:Array Value} (hf:Fit β w Im ⟨args,[(1000,.row T 1 es)]⟩ tmps) {loc:Loc} (hβ:β 1000=some loc) {k:Nat} {os:Array Obj} {d:List α}
  (hw:w'=Sort.grow (Sort.putRow enc (Sort.ahead w k) loc.blk 0 d.toArray) os) (hd:d.length<=loc.tot) (hes:es'.length<=d.length)
  (hrep:∀ (i:Nat) (x:α) (e:List PV),d[i]? = some x->es'[i]? = some e->∃ p,e=[p]/\p.scalar=true/\PRep w Im (enc x) p):CallStep β w Im [(1000,.row T 1 es)] β w' Im [(1000,.row T 1 es')]:=by
 obtain ⟨hlt,him⟩:=hf.live 1000 _ loc Eaf hβ;have hheap:w'.heap=(w.heap.modify loc.blk (Sort.onCells (Sort.putCells enc 0 d.toArray))) ++ os:=by subst hw;rfl
 have hsz:w'.heap.size=w.heap.size+os.size:=by rw[hheap];simp
 have hoth:∀ j,j<w.heap.size->loc.blk≠j->w'.heap[j]? = w.heap[j]?:=by
  intro j hj hne;rw[hheap,Edb (by simpa using hj),Array.getElem?_modify,if_neg hne]
 have hK:Keeps w Im w' Im:=⟨fun _ h=>h,fun b hb=>hoth b (hf.im b hb) fun e=>him (e ▸ hb)⟩
 rcases hf.regs 1000 _ Eaf with ⟨hb,_⟩ | ⟨loc',cur,hb,g1,g2,g3,g4,g5,g6,g7⟩
 ·rw[hβ] at hb;cases hb
 rw[hβ] at hb;cases hb;have hown:w'.heap[loc.blk]? = some (.cells ⟨(Sort.putCells enc 0 d.toArray ⟨cur⟩).toList⟩ T (0,0)):=by
  rw[hheap,Edb (by simpa using hlt),Array.getElem?_modify,if_pos rfl,g2];rfl
 have hcl:(Sort.putCells enc 0 d.toArray ⟨cur⟩).toList.length=loc.tot * 1:=by
  rw[<- g3];simp[Sort.putCells]
 have hcg:∀ (i:Nat) (x:α),d[i]? = some x->(Sort.putCells enc 0 d.toArray ⟨cur⟩).toList[i]? = some (enc x):=by
  intro i x hx;have hi:=(Eab.1 hx).1;have hic:i<cur.length:=by rw[g3];omega
  rw[Ecl];unfold Sort.putCells;rw[Array.getElem?_mapIdx];have:(⟨cur⟩:Array Value)[i]? = some cur[i]:=by simp[hic]
  rw[this,Option.map_some,if_pos ⟨Eau _,by simpa using hi⟩];have h2:d[i]=x:=by
   have:=Eaa hi;rw[this] at hx;exact Ebd hx
  simp[hi,h2]
 exact
  {
   os:=by subst hw;rfl
   tape:=by subst hw;rfl
   output:=by subst hw;rfl
   size:=by omega
   block:=fun j hj hno=>hoth j hj (hno 1000 _ loc Eaf hβ)
   imin:=fun _ h=>h
   imnew:=fun _ h=>.inl h
   env:=fun _ _ _=>rfl
   keys:=fun d r hd=>by
    simp only[Eak,Ebg,or_false,Ede] at hd;exact .inr ⟨_,by rw[hd.1];exact Eaf⟩
   regnew:=fun d r l hd hl=>by
    simp only[Eak,Ebg,or_false,Ede] at hd;rw[hd.1,hβ] at hl;cases hl;exact .inr ⟨1000,_,loc,Eaf,hβ,rfl⟩
   fit :=
    {
     size:=rfl
     tmps:=fun i l h=>by simp at h
     regs:=fun d' r hd'=>by
      simp only[Eak,Ebg,or_false,Ede] at hd';obtain ⟨rfl,rfl⟩:=hd';refine .inr ⟨loc,_,hβ,g1,hown,hcl,omg,g5,fun e he=>?_,fun i e j p he hp=>?_⟩
      ·obtain ⟨i,hi⟩:=Ebz he;have hil:=(Eab.1 hi).1;obtain ⟨p,rfl,hp,_⟩:=hrep i _ e (Eaa omg) hi;exact ⟨rfl,fun q hq=>by simp only[Eak,Ebg,or_false] at hq;subst hq;exact hp⟩
      ·have hil:=(Eab.1 he).1;have hdi:d[i]? = some (d[i]'omg):=Eaa omg;obtain ⟨q,rfl,_,hq⟩:=hrep i _ e hdi he;have hj:j=0/\p=q:=by
        cases j with
        | zero=>simp at hp;exact ⟨rfl,hp.symm⟩
        | succ j=>simp at hp
       obtain ⟨rfl,rfl⟩:=hj;exact ⟨_,by rw[Ect,Nat.add_zero];exact hcg i _ hdi,hq.mono hK⟩
     nodup:=by simp
     live:=fun d' r l hd' hl=>by
      simp only[Eak,Ebg,or_false,Ede] at hd';rw[hd'.1,hβ] at hl;cases hl;exact ⟨omg,him⟩
     apart:=fun d1 r1 d2 r2 l1 l2 h1 h2 hne=>by
      simp only[Eak,Ebg,or_false,Ede] at h1 h2;exact absurd (h1.1.trans h2.1.symm) hne
     im:=fun b hb=>Ebe (hf.im b hb) omg } }
theorem J0f {β:Env} {w:World} {Im:Nat->Prop} {args:List L} {rs:Regs} {tmps:Array Value} (hf:Fit β w Im ⟨args,rs⟩ tmps):CallStep β w Im rs β w Im rs :=
 Js9 hf ⟨rfl,rfl,rfl,Eah _,fun _ _=>rfl⟩
end Go.LX
namespace Go.Proofs
open Go.Shelf
def Tryz_laysE35v_renX:Go.Shelf.Ren:=⟨fun | 35=>98 | n=>n,fun | 22=>53 | 23=>25 | 3=>3 | 4=>4 | 0=>0 | n=>n,fun | n=>n⟩
theorem Jwv:Go.Proofs.SlLaysE.n35 Tryz.prog Tryz_laysE35v_renX:={
 mixed:=by kernel_rfl
 f35:=⟨Tryz.f98.name,by decide,Tryz.func98.trans (congrArg some (by kernel_rfl))⟩
 t0:=Tryz.underlying0
 a0:=Tryz.isAgg0
 z0:=Tryz.sizeOf0
 v0:=Tryz.zeroValue0
 t3:=Tryz.underlying3
 a3:=Tryz.isAgg3
 z3:=Tryz.sizeOf3
 v3:=Tryz.zeroValue3
 t4:=Tryz.underlying4
 a4:=Tryz.isAgg4
 z4:=Tryz.sizeOf4
 v4:=Tryz.zeroValue4
 t22:=Tryz.underlying53
 a22:=Tryz.isAgg53
 z22:=Tryz.sizeOf53
 v22:=Tryz.zeroValue53
 a23:=Tryz.isAgg25
 z23:=Tryz.sizeOf25 }
def Tryz_laysE35r_renX:Go.Shelf.Ren:=⟨fun | 35=>97 | n=>n,fun | 22=>93 | 23=>21 | 3=>3 | 4=>4 | 0=>0 | n=>n,fun | n=>n⟩
theorem Jw6:Go.Proofs.SlLaysE.n35 Tryz.prog Tryz_laysE35r_renX:={
 mixed:=by kernel_rfl
 f35:=⟨Tryz.f97.name,by decide,Tryz.func97.trans (congrArg some (by kernel_rfl))⟩
 t0:=Tryz.underlying0
 a0:=Tryz.isAgg0
 z0:=Tryz.sizeOf0
 v0:=Tryz.zeroValue0
 t3:=Tryz.underlying3
 a3:=Tryz.isAgg3
 z3:=Tryz.sizeOf3
 v3:=Tryz.zeroValue3
 t4:=Tryz.underlying4
 a4:=Tryz.isAgg4
 z4:=Tryz.sizeOf4
 v4:=Tryz.zeroValue4
 t22:=Tryz.underlying93
 a22:=Tryz.isAgg93
 z22:=Tryz.sizeOf93
 v22:=Tryz.zeroValue93
 a23:=Tryz.isAgg21
 z23:=Tryz.sizeOf21 }
def Tryz_laysE45v_renX:Go.Shelf.Ren:=⟨fun | 45=>70 | n=>n,fun | 22=>53 | 23=>25 | 3=>3 | 4=>4 | 0=>0 | n=>n,fun | n=>n⟩
theorem J27:Go.Proofs.SlLaysE.n45 Tryz.prog Tryz_laysE45v_renX:={
 mixed:=by kernel_rfl
 f45:=⟨Tryz.f70.name,by decide,Tryz.func70.trans (congrArg some (by kernel_rfl))⟩
 t0:=Tryz.underlying0
 a0:=Tryz.isAgg0
 z0:=Tryz.sizeOf0
 v0:=Tryz.zeroValue0
 t3:=Tryz.underlying3
 a3:=Tryz.isAgg3
 z3:=Tryz.sizeOf3
 v3:=Tryz.zeroValue3
 t4:=Tryz.underlying4
 a4:=Tryz.isAgg4
 z4:=Tryz.sizeOf4
 v4:=Tryz.zeroValue4
 t22:=Tryz.underlying53
 a22:=Tryz.isAgg53
 z22:=Tryz.sizeOf53
 v22:=Tryz.zeroValue53
 a23:=Tryz.isAgg25
 z23:=Tryz.sizeOf25 }
end Go.Proofs
set_option maxRecDepth 100000
set_option maxHeartbeats 2000000
namespace Go.LX
open Go Go.RowKit Go.Proofs Go.Proofs.Tryz
attribute [local irreducible] Al SWP Bi
theorem Kb5 (es:List (List PV)) (n:Nat) (hn:es.length=n) (hb:n<=1500000000000):Det cx 98 [.own 1000 0 n] [(1000,.row 25 1 es)] (.tup []) [(1000,.row 25 1 es.reverse)]:=by
 unfold Det Al;refine ⟨enters_of func98 kr rfl,fun β Im w vs hg hf=>?_⟩;obtain ⟨v,rfl,hv⟩:=fit1 hf;rcases Jy9 hf hv hn with ⟨rfl,rfl⟩ | ⟨loc,cap,d,hβ,rfl,hc,hdl,hnc,hcm,hH,hd⟩
 ·have he:es=[]:=Ean hn;subst he;have h:Calls Tryz.prog 98 #[.slice none 0 0] w fun e w'=>e=.returned (.tuple #[])/\w'=w:=AnyE.slices_Reverse_empty Jwv none 0 w
  refine h.mono ?_;rintro e w' ⟨rfl,rfl⟩;exact ⟨_,_,_,β,Im,rfl,⟨rfl,rfl⟩,⟨[],rfl,rfl,by simp⟩,J0f hf⟩
 ·subst hdl;have h:Calls Tryz.prog 98 #[.slice (some ⟨loc.blk,0,none⟩) d.length cap] w fun e w'=>e=.returned (.tuple #[])/\∃ q,w'=Sort.putRow v1 (Sort.ahead w q) loc.blk 0 d.reverse.toArray:=AnyE.slices_Reverse Jwv v1 Kak loc.blk 0 cap d w hH omg
  refine h.mono ?_;rintro e w' ⟨rfl,q,rfl⟩;refine ⟨_,_,_,β,Im,rfl,⟨rfl,rfl⟩,⟨[],rfl,rfl,by simp⟩,Jy7 hf hβ (k:=q) (os:=#[]) (d:=d.reverse) (by rw[Sort.grow_empty]) (by rw[Ece];omega) (by rw[Ece,Ece];omega) fun i x e hx he=>?_⟩;have hil:=(Eab.1 hx).1;rw[Ece] at hil;rw[List.getElem?_reverse omg] at hx;rw[List.getElem?_reverse omg,hn] at he;exact hd _ x e hx he
theorem J6d (es:List (List PV)) (n j:Nat) (hn:es.length=n) (hj:j<n) (hb:n<=1500000000000):Det cx 70 [.own 1000 0 n,.p (.int .i64 j),.p (.int .i64 (j+1:Nat))] [(1000,.row 25 1 es)] (.own 1000 0 (n - 1)) [(1000,.row 25 1 (es.eraseIdx j))]:=by
 unfold Det Al;refine ⟨enters_of func70 kr rfl,fun β Im w vs hg hf=>?_⟩;obtain ⟨v,u,x,rfl,hv,hu,hx⟩:=fit3 hf;obtain rfl:=Mz hu;obtain rfl:=Mz hx;rcases Jy9 hf hv hn with ⟨h0,_⟩ | ⟨loc,cap,d,hβ,rfl,hc,hdl,hnc,hcm,hH,hd⟩
 ·omega
 ·subst hdl;have hm:maxLen=9223372036854775807:=rfl;obtain ⟨i0,hi0,hz1⟩:∃ i0,Tryz.prog.info? 25=some i0/\i0.size=1:=by
   have hc:Tryz.prog.cellsOf 25=1:=kr;cases h:Tryz.prog.info? 25 with
   | none=>simp[Program.cellsOf,h] at hc
   | some i=>exact ⟨i,rfl,by simpa[Program.cellsOf,h] using hc⟩
  have h:Calls Tryz.prog 70 #[.slice (some ⟨loc.blk,0,none⟩) d.toArray.size cap,.int .i64 j,.int .i64 (j+1:Nat)] w fun e w'=>e=.returned (.slice (some ⟨loc.blk,0,none⟩) (d.toArray.size - (j+1 - j)) cap)/\∃ q,w'=Sort.putRow v1 (Sort.ahead w q) loc.blk 0 (d.toArray.toList.take j ++ d.toArray.toList.drop (j+1) ++ List.replicate (j+1 - j) (⟨.slice none 0 0,rfl⟩:V1)).toArray :=
   AnyE.slices_Delete J27 v1 Kak ⟨.slice none 0 0,rfl⟩ zeroValue25 i0 hi0 hz1 loc.blk 0 cap j (j+1) d.toArray w hH (by simpa using hnc) omg omg (by simp;omega)
  refine h.mono ?_;rintro e w' ⟨rfl,q,rfl⟩;refine ⟨_,_,_,β,Im,rfl,⟨rfl,rfl⟩,.inl ⟨loc,cap,0,hβ,omg,omg,fun _=>(Edf _).symm,by simp⟩,Jy7 hf hβ (k:=q) (os:=#[]) (d:=d.take j ++ d.drop (j+1) ++ List.replicate (j+1 - j) (⟨.slice none 0 0,rfl⟩:V1)) (by rw[Sort.grow_empty]) (by simp;omega) (by rw[Edl];simp;split<;>omega) fun i x e hx he=>?_⟩;have hl:(d.take j).length=j:=by rw[Eay];omega
  have hel:=(Eab.1 he).1;rw[Edl] at hel;have hi:i<d.length - 1:=by split at hel<;>omega
  rw[Eat (by simp;omega)] at hx;rw[List.getElem?_eraseIdx] at he;split at he
  ·rw[Eat omg,Eas,if_pos omg] at hx;exact hd _ x e hx he
  ·rw[Ear omg,Eco,hl] at hx;exact hd (i+1) x e (by rw[<- hx];congr 1;omega) he
end Go.LX
namespace Go.LX
open Go Go.RowKit Go.Proofs Go.Proofs.Tryz
attribute [local irreducible] Al SWP Bi
theorem J1f (v:List YRow) (i:Nat) (nm:List UInt8) (t:RT) (rest:List YRow) (hv:v.length<=850000000000) (h:v.drop i=t.enc nm ++ rest):Det cx 102 [.p (.sl (rowL v)),.p (.int .i64 i)] [] (.p (.int .i64 (i+(t.enc nm).length:Nat))) []:=by
 (refine bgo func102 ?_;simp only[go_sem,simprocAttr]);have hp:=Jsi t nm;have hb:=J4f h (fun e=>by have e2:(t.enc nm ++ rest).length=0:=(by rw[e];rfl);rw[Eac] at e2;omega);rw[Eac] at hb;refine SWP.loop (fun x:Nat×Nat×RF=>⟨Ba 41 [(0,.p (.sl (rowL v))),(1,.p (.int .i64 x.1)),(5,.p (.int .i64 x.2.1))],[]⟩) (fun x=>x.2.1=x.2.2.len/\v.drop x.1=x.2.2.enc ++ rest/\x.1+x.2.2.enc.length=i+(t.enc nm).length) (fun x=>x.2.2.enc.length) (i,1,.cons nm t .nil) Jqc ⟨rfl,by simp[Jqv,Jsd,h],by simp[Jqv,Jsd]⟩ ?_;rintro ⟨j,left,F⟩ ⟨h0,h1,h2⟩;simp only at h0 h1 h2
 match F,h0,h1,h2 with
 | .nil,h0,h1,h2 =>
  rw[Jsd] at h2;simp only[RF.len] at h0;subst h0;have c0:((0:Int)<((0:Nat):Int))=False:=eq_false omg;(refine lws ?_;simp only[go_sem,simprocAttr]);simp only[Ea8] at h2;omega
 | .cons nm' (.mk k s g e kids) r,h0,h1,h2 =>
  rw[Jve] at h0;rw[Jqv,Jqs] at h1 h2;have hg:=Js5 h1;rw[Jr5] at hg;simp only[Ead,Eac] at h2;have hl1:=Jq7 kids;have hl2:=Jq7 r;have w0:IntKind.i64.wrap ((left:Int) - 1)=(r.len:Int):=by rw[Aa omg omg];omega
  have w1:IntKind.i64.wrap ((r.len:Int)+(kids.len:Int))=((r.len+kids.len:Nat):Int):=by rw[Aa omg omg];omega
  (refine lws ?_;simp only[go_sem,simprocAttr,wj1 (i:=j) omg,hg,w0,w1,Jq0]);(repeat'(first|(apply iteI<;>intro h)|(exfalso;omega)))
  ·exact ⟨(j+1,r.len+kids.len,kids.app r),⟨by simp only[Jsr];omega,by
    simp only[Jq6];rw[<- Ebj,h1];simp,by simp only[Jq6,Eac];omega⟩,by simp only[Jq6,Jqv,Jqs,Eac,Ead];omega,Jqc⟩
theorem J97 (v:List YRow) (hv:v.length<=10000):Det cx 102 [.p (.sl (rowL v)),.p (.int .i64 0)] [] (.p (.int .i64 (Jtm v 0 1))) []:=by
 (refine bgo func102 ?_;simp only[go_sem,simprocAttr]);refine SWP.loop (fun x:Nat×Nat=>⟨Ba 41 [(0,.p (.sl (rowL v))),(1,.p (.int .i64 x.1)),(5,.p (.int .i64 x.2))],[]⟩) (fun x=>x.1<=v.length/\x.2<=1+x.1 * 10000/\Jtm v x.1 x.2=Jtm v 0 1) (fun x=>v.length - x.1) (0,1) Jqc ⟨Eau _,by simp,rfl⟩ ?_;rintro ⟨i,o⟩ ⟨h1,h2,h3⟩;simp only at h1 h2 h3;by_cases ho:o=0
 ·subst ho;rw[J96] at h3;have c0:((0:Int)<((0:Nat):Int))=False:=eq_false omg;(refine lws ?_;simp only[go_sem,simprocAttr]);rw[h3]
 ·have c0:((0:Int)<(o:Int))=True:=eq_true omg;by_cases hi:¬ i<v.length
  ·have c1:((v.length:Int)<=(i:Int))=True:=eq_true omg;rw[Kcj omg omg] at h3;(refine lws ?_;simp only[go_sem,simprocAttr,Jq0,c0,c1]);rw[<- h3]
  ·have hi:=Ea9.1 hi;have c1:((v.length:Int)<=(i:Int))=False:=eq_false omg;obtain ⟨n,hn⟩:∃ n,v[i]? = some n:=⟨_,Eaa hi⟩
   have hg:=Jzc hn;by_cases hb:n.many<0\/(v.length:Int)<n.many
   ·rw[Kb1 hn omg hb] at h3;by_cases hb1:n.many<0
    ·have c2:(n.many<0)=True:=eq_true hb1;(refine lws ?_;simp only[go_sem,simprocAttr,Jq0,c0,c1,c2,hg]);rw[<- h3]
    ·have c2:(n.many<0)=False:=eq_false hb1;have c3:((v.length:Int)<n.many)=True:=eq_true omg;(refine lws ?_;simp only[go_sem,simprocAttr,Jq0,c0,c1,c2,c3,hg]);rw[<- h3]
   ·have c2:(n.many<0)=False:=eq_false omg;have c3:((v.length:Int)<n.many)=False:=eq_false omg;obtain ⟨o',rfl⟩:∃ o',o=o'+1:=⟨o - 1,omg⟩
    rw[J99 hn hb] at h3;have w1:IntKind.i64.wrap (((o'+1:Nat):Int) - 1)=(o':Int):=by rw[Aa omg omg];omega
    have w2:IntKind.i64.wrap ((o':Int)+n.many)=((o'+n.many.toNat:Nat):Int):=by rw[Aa omg omg];omega
    have w3:=wj1 (i:=i) omg;(refine lws ?_;simp only[go_sem,simprocAttr,Jq0,c0,c1,c2,c3,hg,w1,w2,w3]);exact ⟨(i+1,o'+n.many.toNat),⟨by simp only;omega,by simp only;omega,h3⟩,by simp only;omega,Jqc⟩
theorem J3g (nm:List UInt8) (kd:Int) (s:List UInt8) (g:Int) (e:Node) (kids:RF) (hv:kids.enc.length<=849999999999):Det cx 50 [.p (.sl (rowL ((RT.mk kd s g e kids).enc nm)))] [] (.p (.sl (Jrk kids.list))) []:=by
 have hl:=Jq7 kids;have hkl:=Jq4 kids;generalize hvv:(RT.mk kd s g e kids).enc nm=v;have h0:v.drop 0=⟨kd,kids.len,nm,s,g,e⟩ :: kids.enc:=by rw[<- hvv,Jqs];rfl
 have hg0:=Js5 h0;rw[Jr5] at hg0;have hvl:v.length=kids.enc.length+1:=by rw[<- hvv,Jqs];rfl
 (refine bgo func50 ?_;simp only[go_sem,simprocAttr]);refine Jqg (B1 [(9,37)] _ sm) ?_;simp only[go_sem,simprocAttr];refine SWP.loop (fun x:Nat×Nat×RF=>⟨Ba 40 [(0,.p (.sl (rowL v))),(3,.own 37 0 x.1),(4,.p (.int .i64 x.2.1)),(5,.p (.int .i64 x.1))],[(37,.row 23 1 (Jrk (kids.list.take x.1)))]⟩) (fun x=>x.1+x.2.2.len=kids.len/\v.drop x.2.1=x.2.2.enc/\x.2.1+x.2.2.enc.length=v.length/\kids.list.drop x.1=x.2.2.list) (fun x=>x.2.2.enc.length) (0,1,kids) Jqc ⟨by simp,by rw[<- hvv,Jqs];rfl,by simp only;omega,rfl⟩ ?_;rintro ⟨k,j,F⟩ ⟨h1,h2,h3,h4⟩;simp only at h1 h2 h3 h4 ⊢
 match F,h1,h2,h3,h4 with
 | .nil,h1,h2,h3,h4 =>
  simp only[RF.len] at h1;have hkk:k=kids.len:=by omega
  subst hkk;have c1:((kids.len:Int)<(kids.len:Int))=False:=eq_false omg;have hpl:(kids.len<=(Jrk (kids.list.take kids.len)).length)=True:=eq_true (by rw[Jrg,Eay];omega);have htk:(Jrk (kids.list.take kids.len)).take kids.len=Jrk kids.list:=by
   rw[Eae (by rw[Jrg,Eay];omega),Eae omg]
  (refine lws ?_;simp only[go_sem,simprocAttr,hg0,hpl,htk,c1])
  skip
 | .cons nm' (.mk k' s' g' e' kids') r,h1,h2,h3,h4 =>
  rw[Jve] at h1;rw[Jqv] at h2 h3;rw[Eac] at h3;have hkk:kids.list[k]? = some (nm',.mk k' s' g' e' kids'):=by
   have:=congrArg (·[0]?) h4;simpa[RF.list] using this
  have hpk:=Jwq hkk;have c1:((k:Int)<(kids.len:Int))=True:=eq_true omg;rw[Jqs,Jxf,Jr5] at hpk;have hpl:(Jrk (kids.list.take k)).length=k:=by rw[Jrg,Eay];omega
  have hs:=J4p h2;have hel:((RT.mk k' s' g' e' kids').enc nm').length=kids'.enc.length+1:=by rw[Jqs];rfl
  have hs':((rowL v).drop j).take (j+((RT.mk k' s' g' e' kids').enc nm').length - j)=[.int .i64 k',.int .i64 kids'.len,.str nm',.str s',.int .i64 g',.int .i64 e'.kind,.int .i64 e'.many,.str e'.name,.str e'.s,.bool e'.neg,.int .i64 e'.e] :: rowL kids'.enc:=by
   rw[Ec4,hs,Jqs,Jxf,Jr5]
  have h6:∀ q∈[.int .i64 k',.int .i64 kids'.len,.str nm',.str s',.int .i64 g',.int .i64 e'.kind,.int .i64 e'.many,.str e'.name,.str e'.s,.bool e'.neg,.int .i64 e'.e] :: rowL kids'.enc,q.length=11:=fun q hq=>J1h ((RT.mk k' s' g' e' kids').enc nm') q (by rw[Jqs];exact hq)
  have htk:(rowL kids'.enc).take kids'.enc.length=rowL kids'.enc:=Eae sm;(refine lws ?_;simp only[go_sem,simprocAttr,hg0,c1,wj1 (i:=k) omg]);(repeat'(first|(refine And.intro (J1h _) ?_)|refine Jqj ?_|((refine Jqa (J1f v j nm' (.mk k' s' g' e' kids') r.enc omg h2) ?_);simp only[go_sem,simprocAttr,wj1 (i:=k) omg,hs',htk,hpl,Jq0,Eah])|fail));refine ⟨by simp,omg,omg,(k+1,j+((RT.mk k' s' g' e' kids').enc nm').length,r),⟨by simp only;omega,by simp only;rw[<- Ebj,h2,Edh],by simp only;omega,by simp only;rw[<- Ebj,h4];rfl⟩,by have:=Jsi (.mk k' s' g' e' kids') nm';simp only[Jqv,Eac];omega,?_⟩;simp only;rw[hpk];exact Jqc
end Go.LX
namespace Go.LX
open Go Go.RowKit Go.Proofs
attribute [local irreducible] Al SWP Bi
def Jqw (f:Tree->Except Nat Tree):Nat->List Tree->Except Nat (List (Nat×Tree))
 | _,[]=>.ok []
 | i,t :: l=>match f t with
  | .error e=>if e=5 then .error 5 else Jqw f (i+1) l
  | .ok u=>match Jqw f (i+1) l with
   | .error e=>.error e
   | .ok us=>.ok ((i,u) :: us)
def preP (us:List (Nat×Tree)):Except Nat (List (Nat×Tree))->Except Nat (List (Nat×Tree))
 | .ok l=>.ok (us ++ l)
 | .error e=>.error e
theorem Juv {f:Tree->Except Nat Tree}:∀ {l:List Tree} {i e:Nat},Jqw f i l=.error e->e=5
 | [],i,e,h=>by rw[Jqw] at h;cases h
 | t :: l,i,e,h=>by
  rw[Jqw] at h;cases hf:f t with
  | error e' =>
   rw[hf] at h;simp only at h;split at h
   ·cases h;rfl
   ·exact Juv h
  | ok u =>
   rw[hf] at h;cases hk:Jqw f (i+1) l with
   | error e'=>rw[hk] at h;cases h;exact Juv hk
   | ok us=>rw[hk] at h;cases h
theorem Jv1 (f:Tree->Except Nat Tree):∀ (l:List Tree) (i:Nat),mapE f l=match Jqw f i l with
  | .ok us=>.ok (us.map (·.2))
  | .error e=>.error e
 | [],i=>rfl
 | t :: l,i=>by
  rw[mapE,Jqw];cases f t with
  | error e =>
   simp only;split
   ·rfl
   ·exact Jv1 f l (i+1)
  | ok u =>
   simp only;rw[Jv1 f l (i+1)];cases Jqw f (i+1) l with
   | error e=>rfl
   | ok us=>rfl
theorem Jx8 (f:Tree->Except Nat Tree) (ns:List (List UInt8)):∀ (l:List KT) (i:Nat),ns.drop i=l.map (·.1)->mapN f l=match Jqw f i (l.map (·.2)) with
  | .ok us=>.ok (us.map fun p=>(ns.getD p.1 [],p.2))
  | .error e=>.error e
 | [],i,_=>rfl
 | q :: l,i,h=>by
  have hn:ns[i]?.getD []=q.1:=by
   have:=congrArg (·[0]?) h;simp at this;rw[this];rfl
  have ih:=Jx8 f ns l (i+1) (by rw[<- Ebj,h];rfl);rw[mapN,Eaq,Jqw];cases f q.2 with
  | error e =>
   simp only;split
   ·rfl
   ·exact ih
  | ok u =>
   simp only;rw[ih];cases Jqw f (i+1) (l.map (·.2)) with
   | error e=>rfl
   | ok us=>simp[hn]
theorem Jvd {f:Tree->Except Nat Tree}:∀ {l:List Tree} {i:Nat} {us:List (Nat×Tree)},Jqw f i l=.ok us->∀ p∈us,i<=p.1/\p.1<i+l.length
 | [],i,us,h=>by rw[Jqw] at h;cases h;intro p hp;cases hp
 | t :: l,i,us,h=>by
  rw[Jqw] at h;cases hf:f t with
  | error e =>
   rw[hf] at h;simp only at h;split at h
   ·cases h
   ·intro p hp;have:=Jvd h p hp;rw[Ead];omega
  | ok u =>
   rw[hf] at h;cases hk:Jqw f (i+1) l with
   | error e=>rw[hk] at h;cases h
   | ok us' =>
    rw[hk] at h;cases h;intro p hp;rw[Ead];rcases Eak.1 hp with rfl | hp
    ·simp only;omega
    ·have:=Jvd hk p hp;omega
def J29:Except Nat (List (Nat×Tree))->L
 | .ok us=>.tup [.sl (Jqd (us.map (·.2))),.sl (natL (us.map (·.1))),.int .i64 0]
 | .error e=>.tup [.snil,.snil,.int .i64 e]
theorem Kcu {t:Tree} (h:FitT t) {nm:List UInt8} (hn:nm.length<=1000000):∀ n∈t.enc nm,NodeFit n:=by
 obtain ⟨k,s,g,e,kids⟩:=t;intro n hn';unfold FitT at h;rw[A6] at h hn';rcases Eak.1 hn' with rfl | h'
 ·have:=h _ Eaf;exact ⟨this.s,hn,this.e0,this.e1⟩
 ·exact h n (Eai _ h')
theorem J3m:∀ l:List KT,(∀ p∈l,FitT p.2/\p.1.length<=1000000)->∀ n∈(A1 l).enc,NodeFit n
 | [],_,n,hn=>by rw[show A1 []=.nil from rfl,Bl] at hn;cases hn
 | p :: l,hl,n,hn=>by
  rw[show A1 (p :: l)=.cons p.1 p.2 (A1 l) from rfl,A0] at hn;obtain ⟨h1,h2⟩:=hl p Eaf;rcases Eax.1 hn with hn | hn
  ·exact Kcu h1 h2 n hn
  ·exact J3m l (fun x hx=>hl x (Eai _ hx)) n hn
theorem Jsu:∀ l:List KT,(A1 l).enc.length=Jqn (l.map (·.2))
 | []=>by rw[show A1 []=.nil from rfl,Bl];rfl
 | p :: l=>by rw[show A1 (p :: l)=.cons p.1 p.2 (A1 l) from rfl,A0,Eac,Jsu l,Eaq,Jq8,G7 p.2]
theorem str_ok {s:List UInt8} (h:valid s=true):okT (strT s):=by
 unfold strT;rw[Lu];exact ⟨by simp[G3,h,Forest.len],Sb 4,I6⟩
theorem Kgd {s:List UInt8} (h:s.length<=1000000):FitT (strT s):=by
 intro n hn;unfold strT at hn;rw[A6,Bl] at hn;simp only[Eak,Ebg,or_false] at hn;subst hn;exact ⟨h,Eau _,(by decide:(-9223372036854775808:Int)<=0),(by decide:(0:Int)<=9223372036854775807)⟩
end Go.LX
namespace Go.LX
open Go Go.RowKit Go.Proofs Go.Proofs.Tryz
attribute [local irreducible] Al SWP Bi
theorem Jvy (s:List UInt8) (hs:s.length<=1000000):Det cx 162 [.p (.str s)] [] (.p (.bool (decide (J14 s)))) []:=by
 have hR:=J4g s hs;by_cases h0:(Je s).2.2=0
 ·have c1:(((Je s).2.2:Int)=0)=True:=eq_true omg;rw[show decide (J14 s)=true from decide_eq_true h0];(refine bgo func162 ?_;simp only[go_sem,simprocAttr]);(repeat'(first|((refine Jqa hR ?_);simp only[go_sem,simprocAttr,c1])|fail))
 ·have c1:(((Je s).2.2:Int)=0)=False:=eq_false omg;rw[show decide (J14 s)=false from decide_eq_false h0];(refine bgo func162 ?_;simp only[go_sem,simprocAttr]);(repeat'(first|((refine Jqa hR ?_);simp only[go_sem,simprocAttr,c1])|fail))
theorem Kf6 (n:Node) (hf:NodeFitC n) (hk:n.kind<5):Det cx 24 [.p (.sl [[.int .i64 n.kind,.int .i64 n.many,.str n.name,.str n.s,.bool n.neg,.int .i64 n.e]])] [] (.p (.bool (decide (Js2 n)))) []:=by
 by_cases hnm:n.name=[]
 ·have hR:=Jp [n] sm (by intro x hx;simp at hx;subst hx;exact ⟨hf.s,by rw[hnm];simp,hf.e0,hf.e1⟩);rw[J81 hk,show valL [n]=[[.int .i64 n.kind,.int .i64 n.many,.str n.name,.str n.s,.bool n.neg,.int .i64 n.e]] from rfl] at hR;exact hR
 ·rw[decide_eq_false (fun h=>hnm h.2.1)];exact Jy2 n hnm
instance (op:Int) (s:List UInt8) (n:Int) (c:Node) (m:Int):Decidable (Jqq op s n c m):=by unfold Jqq;infer_instance
theorem Kdh (k m:Int) (nm s:List UInt8) (n:Int) (c:Node) (hs:s.length<=1000000) (hf:NodeFitC c):Det cx 130 [.p (.agg [.int .i64 k,.int .i64 m,.str nm,.str s,.int .i64 n,.int .i64 c.kind,.int .i64 c.many,.str c.name,.str c.s,.bool c.neg,.int .i64 c.e])] [] (.p (.bool (decide (Jqq k s n c m)))) []:=by
 by_cases k0:k=0
 ·subst k0;(refine bgo func130 ?_;simp only[go_sem,simprocAttr]);(repeat'(apply iteI<;>intro h))
  all_goals((clear hf hs)<;>(rw[Ea4])<;>(simp only[Jqq,Jre,decide_eq_true_eq,Int.reduceEq,if_true,if_false,true_or,or_true,or_false,false_or,or_self,ite_true,ite_false,reduceIte])<;>(try simp_all)<;>(try omega))
 by_cases k1:k=1
 ·subst k1;have hU:=Cn s hs;(refine bgo func130 ?_;simp only[go_sem,simprocAttr]);(repeat'(first|(apply iteI<;>intro h)|((refine Jqa hU ?_);simp only[go_sem,simprocAttr])|fail))
  all_goals((try clear hU)<;>(clear hf hs)<;>(rw[Ea4])<;>(simp only[Jqq,Jre,decide_eq_true_eq,Int.reduceEq,if_true,if_false,true_or,or_true,or_false,false_or,or_self,ite_true,ite_false,reduceIte])<;>(try simp_all)<;>(try omega))
 by_cases k2:k=2
 ·subst k2;(refine bgo func130 ?_;simp only[go_sem,simprocAttr]);(repeat'(apply iteI<;>intro h))
  all_goals((clear hf hs)<;>(rw[Ea4])<;>(simp only[Jqq,Jre,decide_eq_true_eq,Int.reduceEq,if_true,if_false,true_or,or_true,or_false,false_or,or_self,ite_true,ite_false,reduceIte])<;>(try simp_all)<;>(try omega))
 by_cases k3:k=3
 ·subst k3;(refine bgo func130 ?_;simp only[go_sem,simprocAttr]);(repeat'(apply iteI<;>intro h))
  all_goals((clear hf hs)<;>(rw[Ea4])<;>(simp only[Jqq,Jre,decide_eq_true_eq,Int.reduceEq,if_true,if_false,true_or,or_true,or_false,false_or,or_self,ite_true,ite_false,reduceIte])<;>(try simp_all)<;>(try omega))
 by_cases k4:k=4
 ·subst k4;(refine bgo func130 ?_;simp only[go_sem,simprocAttr]);(repeat'(apply iteI<;>intro h))
  all_goals((clear hf hs)<;>(rw[Ea4])<;>(simp only[Jqq,Jre,decide_eq_true_eq,Int.reduceEq,if_true,if_false,true_or,or_true,or_false,false_or,or_self,ite_true,ite_false,reduceIte])<;>(try simp_all)<;>(try omega))
 by_cases k5:k=5
 ·subst k5;(refine bgo func130 ?_;simp only[go_sem,simprocAttr]);(repeat'(apply iteI<;>intro h))
  all_goals((clear hf hs)<;>(rw[Ea4])<;>(simp only[Jqq,Jre,decide_eq_true_eq,Int.reduceEq,if_true,if_false,true_or,or_true,or_false,false_or,or_self,ite_true,ite_false,reduceIte])<;>(try simp_all)<;>(try omega))
 by_cases k6:k=6
 ·subst k6;(refine bgo func130 ?_;simp only[go_sem,simprocAttr]);(repeat'(apply iteI<;>intro h))
  all_goals((clear hf hs)<;>(rw[Ea4])<;>(simp only[Jqq,Jre,decide_eq_true_eq,Int.reduceEq,if_true,if_false,true_or,or_true,or_false,false_or,or_self,ite_true,ite_false,reduceIte])<;>(try simp_all)<;>(try omega))
 by_cases k7:k=7
 ·subst k7;(refine bgo func130 ?_;simp only[go_sem,simprocAttr]);(repeat'(apply iteI<;>intro h))
  all_goals((clear hf hs)<;>(rw[Ea4])<;>(simp only[Jqq,Jre,decide_eq_true_eq,Int.reduceEq,if_true,if_false,true_or,or_true,or_false,false_or,or_self,ite_true,ite_false,reduceIte])<;>(try simp_all)<;>(try omega))
 by_cases k8:k=8
 ·subst k8;(refine bgo func130 ?_;simp only[go_sem,simprocAttr]);(repeat'(apply iteI<;>intro h))
  all_goals((clear hf hs)<;>(rw[Ea4])<;>(simp only[Jqq,Jre,decide_eq_true_eq,Int.reduceEq,if_true,if_false,true_or,or_true,or_false,false_or,or_self,ite_true,ite_false,reduceIte])<;>(try simp_all)<;>(try omega))
 by_cases k9:k=9
 ·subst k9;(refine bgo func130 ?_;simp only[go_sem,simprocAttr]);(repeat'(apply iteI<;>intro h))
  all_goals((clear hf hs)<;>(rw[Ea4])<;>(simp only[Jqq,Jre,decide_eq_true_eq,Int.reduceEq,if_true,if_false,true_or,or_true,or_false,false_or,or_self,ite_true,ite_false,reduceIte])<;>(try simp_all)<;>(try omega))
 by_cases k10:k=10
 ·subst k10;(refine bgo func130 ?_;simp only[go_sem,simprocAttr]);(repeat'(apply iteI<;>intro h))
  all_goals((clear hf hs)<;>(rw[Ea4])<;>(simp only[Jqq,Jre,decide_eq_true_eq,Int.reduceEq,if_true,if_false,true_or,or_true,or_false,false_or,or_self,ite_true,ite_false,reduceIte])<;>(try simp_all)<;>(try omega))
 by_cases k11:k=11
 ·subst k11;(refine bgo func130 ?_;simp only[go_sem,simprocAttr]);(repeat'(apply iteI<;>intro h))
  all_goals((clear hf hs)<;>(rw[Ea4])<;>(simp only[Jqq,Jre,decide_eq_true_eq,Int.reduceEq,if_true,if_false,true_or,or_true,or_false,false_or,or_self,ite_true,ite_false,reduceIte])<;>(try simp_all)<;>(try omega))
 by_cases k12:k=12
 ·subst k12;have hP:=Jvy s hs;(refine bgo func130 ?_;simp only[go_sem,simprocAttr]);(repeat'(first|(apply iteI<;>intro h)|((refine Jqa hP ?_);simp only[go_sem,simprocAttr])|fail))
  all_goals((try clear hP)<;>(clear hf hs)<;>(rw[Ea4])<;>(simp only[Jqq,Jre,decide_eq_true_eq,Int.reduceEq,if_true,if_false,true_or,or_true,or_false,false_or,or_self,ite_true,ite_false,reduceIte])<;>(try simp_all)<;>(try omega))
 by_cases k13:k=13
 ·subst k13;have hP:=Jvy s hs;(refine bgo func130 ?_;simp only[go_sem,simprocAttr]);(repeat'(first|(apply iteI<;>intro h)|((refine Jqa hP ?_);simp only[go_sem,simprocAttr])|fail))
  all_goals((try clear hP)<;>(clear hf hs)<;>(rw[Ea4])<;>(simp only[Jqq,Jre,decide_eq_true_eq,Int.reduceEq,if_true,if_false,true_or,or_true,or_false,false_or,or_self,ite_true,ite_false,reduceIte])<;>(try simp_all)<;>(try omega))
 by_cases k14:k=14
 ·subst k14;(refine bgo func130 ?_;simp only[go_sem,simprocAttr]);(repeat'(apply iteI<;>intro h))
  all_goals((clear hf hs)<;>(rw[Ea4])<;>(simp only[Jqq,Jre,decide_eq_true_eq,Int.reduceEq,if_true,if_false,true_or,or_true,or_false,false_or,or_self,ite_true,ite_false,reduceIte])<;>(try simp_all)<;>(try omega))
 by_cases k15:k=15
 ·subst k15;have hP:=Jvy s hs;(refine bgo func130 ?_;simp only[go_sem,simprocAttr]);(repeat'(first|(apply iteI<;>intro h)|((refine Jqa hP ?_);simp only[go_sem,simprocAttr])|fail))
  all_goals((try clear hP)<;>(clear hf hs)<;>(rw[Ea4])<;>(simp only[Jqq,Jre,decide_eq_true_eq,Int.reduceEq,if_true,if_false,true_or,or_true,or_false,false_or,or_self,ite_true,ite_false,reduceIte])<;>(try simp_all)<;>(try omega))
 by_cases k17:k=17
 ·subst k17;(refine bgo func130 ?_;simp only[go_sem,simprocAttr]);(repeat'(apply iteI<;>intro h))
  all_goals((clear hf hs)<;>(rw[Ea4])<;>(simp only[Jqq,Jre,decide_eq_true_eq,Int.reduceEq,if_true,if_false,true_or,or_true,or_false,false_or,or_self,ite_true,ite_false,reduceIte])<;>(try simp_all)<;>(try omega))
 by_cases k18:k=18
 ·subst k18;(refine bgo func130 ?_;simp only[go_sem,simprocAttr]);(repeat'(apply iteI<;>intro h))
  all_goals((clear hf hs)<;>(rw[Ea4])<;>(simp only[Jqq,Jre,decide_eq_true_eq,Int.reduceEq,if_true,if_false,true_or,or_true,or_false,false_or,or_self,ite_true,ite_false,reduceIte])<;>(try simp_all)<;>(try omega))
 by_cases k19:k=19
 ·subst k19;(refine bgo func130 ?_;simp only[go_sem,simprocAttr]);(repeat'(apply iteI<;>intro h))
  all_goals((clear hf hs)<;>(rw[Ea4])<;>(simp only[Jqq,Jre,decide_eq_true_eq,Int.reduceEq,if_true,if_false,true_or,or_true,or_false,false_or,or_self,ite_true,ite_false,reduceIte])<;>(try simp_all)<;>(try omega))
 by_cases k16:k=16
 ·subst k16;have hP:=Jvy s hs;by_cases hk:c.kind<5
  ·have hR:=Kf6 c hf hk;have ck:=eq_true hk;(refine bgo func130 ?_;simp only[go_sem,simprocAttr]);(repeat'(first|(apply iteI<;>intro h)|((first|refine Jqa hP ?_|refine Jqa hR ?_);simp only[go_sem,simprocAttr,ck,decide_true])|fail))
   all_goals (try clear hP)
   all_goals((try clear hR)<;>(clear hf hs)<;>(rw[Ea4])<;>(simp only[Jqq,Jre,decide_eq_true_eq,Int.reduceEq,if_true,if_false,true_or,or_true,or_false,false_or,or_self,ite_true,ite_false,reduceIte])<;>(try simp_all)<;>(try omega))
  ·have ck:=eq_false hk;have hnp:¬ Js2 c:=fun h=>hk h.1
   (refine bgo func130 ?_;simp only[go_sem,simprocAttr]);(repeat'(first|(apply iteI<;>intro h)|((refine Jqa hP ?_);simp only[go_sem,simprocAttr,ck,decide_false])|fail))
   all_goals (try clear hP)
   all_goals((try clear hR)<;>(clear hf hs)<;>(rw[Ea4])<;>(simp only[Jqq,Jre,decide_eq_true_eq,Int.reduceEq,if_true,if_false,true_or,or_true,or_false,false_or,or_self,ite_true,ite_false,reduceIte])<;>(try simp_all)<;>(try omega))
 have e0:=eq_false k0;have e1:=eq_false k1;have e2:=eq_false k2;have e3:=eq_false k3;have e4:=eq_false k4;have e5:=eq_false k5;have e6:=eq_false k6;have e7:=eq_false k7;have e8:=eq_false k8;have e9:=eq_false k9;have e10:=eq_false k10;have e11:=eq_false k11;have e12:=eq_false k12;have e13:=eq_false k13;have e14:=eq_false k14;have e15:=eq_false k15;have e17:=eq_false k17;have e18:=eq_false k18;have e19:=eq_false k19;have e16:=eq_false k16;rw[show decide (Jqq k s n c m)=false by simp[Jqq,k0,k1,k2,k3,k4,k5,k6,k7,k8,k9,k10,k11,k12,k13,k14,k15,k16,k17,k18,k19]];(refine bgo func130 ?_;simp only[go_sem,simprocAttr,e0,e1,e2,e3,e4,e5,e6,e7,e8,e9,e10,e11,e12,e13,e14,e15,e16,e17,e18,e19])
 skip
theorem J90 (k m:Int) (nm s:List UInt8) (n:Int) (c:Node):Det cx 81 [.p (.agg [.int .i64 k,.int .i64 m,.str nm,.str s,.int .i64 n,.int .i64 c.kind,.int .i64 c.many,.str c.name,.str c.s,.bool c.neg,.int .i64 c.e]) ] [] (.p (.bool (decide (Jrm k)))) []:=by
 by_cases h1:16<=k
 ·have c1:=eq_true h1;by_cases h2:k<=19
  ·have c2:=eq_true h2;rw[show decide (Jrm k)=true from decide_eq_true ⟨h1,h2⟩];(refine bgo func81 ?_;simp only[go_sem,simprocAttr,c1,c2,decide_true])
   skip
  ·have c2:=eq_false h2;rw[show decide (Jrm k)=false from decide_eq_false fun h=>h2 h.2];(refine bgo func81 ?_;simp only[go_sem,simprocAttr,c1,c2,decide_true,decide_false])
   skip
 ·have c1:=eq_false h1;rw[show decide (Jrm k)=false from decide_eq_false fun h=>h1 h.1];(refine bgo func81 ?_;simp only[go_sem,simprocAttr,c1,decide_false])
  skip
def Jrt (i:Nat) (l:List RKT) (q:Nat):Nat:=i+1+(rfL (l.take q)).enc.length
theorem J2s (i:Nat) (l:List RKT):Jrt i l 0=i+1:=by unfold Jrt;rw[Eb7,rfL,Jsd];rfl
theorem Jx9 {i:Nat} {l:List RKT} {q:Nat} {p:RKT} (h:l[q]? = some p):Jrt i l (q+1)=Jrt i l q+(p.2.enc p.1).length:=by
 unfold Jrt;rw[Js7,Js7,Ebc,h,Option.toList_some,Ec6,Eac];simp;omega
theorem Jt5:∀ f:RF,rfL f.list=f
 | .nil=>rfl
 | .cons nm t r=>by rw[RF.list,rfL,Jt5 r]
theorem J74 {v:List YRow} {i:Nat} {y:YRow} {kids:RF} {rest:List YRow} (h:v.drop i=y :: (kids.enc ++ rest)) {q:Nat} (hq:q<=kids.list.length):v.drop (Jrt i kids.list q)=(rfL (kids.list.drop q)).enc ++ rest:=by
 unfold Jrt;have e1:kids.enc=(rfL (kids.list.take q)).enc ++ (rfL (kids.list.drop q)).enc:=by
  rw[Js7,Js7,<- Ec6,Ebk,<- Js7,Jt5]
 rw[<- Ebj,<- Ebj,h,Ecd,Ebn,e1,Ea2,Edh]
theorem Jyq {v:List YRow} {i:Nat} {y:YRow} {kids:RF} {rest:List YRow} (h:v.drop i=y :: (kids.enc ++ rest)) {q:Nat} {p:RKT} (hp:kids.list[q]? = some p):v.drop (Jrt i kids.list q)=p.2.enc p.1 ++ ((rfL (kids.list.drop (q+1))).enc ++ rest):=by
 have hq:=(Eab.1 hp).1;rw[J74 h omg,Eaz hq];have:kids.list[q]=p:=(Eab.1 hp).2;rw[this,rfL,Jqv,Ea2]
theorem J79 {v:List YRow} {i:Nat} {y:YRow} {kids:RF} {rest:List YRow} (h:v.drop i=y :: (kids.enc ++ rest)) {q:Nat} {p:RKT} (hp:kids.list[q]? = some p):Jrt i kids.list q+(p.2.enc p.1).length<=v.length:=by
 have h1:=Jyq h hp;have h2:=congrArg List.length h1;have h3:=Jsi p.2 p.1;rw[Ea5,Eac] at h2;omega
theorem Kau {i:Nat} {l:List RKT} {q r:Nat} (h:q<r) (hr:r<=l.length):Jrt i l q<Jrt i l r:=by
 induction r with
 | zero=>omega
 | succ r ih =>
  obtain ⟨p,hp⟩:∃ p,l[r]? = some p:=⟨_,Eaa omg⟩
  rw[Jx9 hp];have:=Jsi p.2 p.1;by_cases e:q=r
  ·subst e;omega
  ·have:=ih omg omg;omega
theorem d_had (v:List YRow) (i:Nat) (y:YRow) (kids:RF) (rest:List YRow) (q:Nat) (p:RKT) (hv:v.length<=850000000000) (h:v.drop i=y :: (kids.enc ++ rest)) (hp:kids.list[q]? = some p):Det cx 163 [.p (.sl (rowL v)),.p (.int .i64 i),.p (.int .i64 (Jrt i kids.list q))] [] (.p (.bool (decide (p.1∈(kids.list.take q).map (·.1))))) []:=by
 have hq:=(Eab.1 hp).1;have hlt:=J79 h hp;have h0:i+1<=Jrt i kids.list q:=by unfold Jrt;omega
 obtain ⟨k1,n1,s1,g1,e1,hgp⟩:=Jzt (Jyq h hp);have w0:=wj1 (i:=i) omg;(refine bgo func163 ?_;simp only[go_sem,simprocAttr,w0]);refine SWP.loop (fun r:Nat=>⟨Ba 27 [(0,.p (.sl (rowL v))),(1,.p (.int .i64 i)),(2,.p (.int .i64 (Jrt i kids.list q))),(7,.p (.int .i64 (Jrt i kids.list r)))],[]⟩) (fun r=>r<=q/\p.1 ∉ (kids.list.take r).map (·.1)) (fun r=>q - r) 0 (by rw[J2s];exact Jqc) ⟨Eau _,by simp⟩ ?_;rintro r ⟨hr,hn⟩;by_cases hrq:r<q
 ·have hpl:=Kau (i:=i) hrq (by omega:q<=kids.list.length);have c1:((Jrt i kids.list r:Int)<(Jrt i kids.list q:Int))=True:=eq_true omg;obtain ⟨x,hx⟩:∃ x,kids.list[r]? = some x:=⟨_,Eaa omg⟩
  have hd:=Jyq h hx;obtain ⟨k2,n2,s2,g2,e2,hgx⟩:=Jzt hd;by_cases hnm:x.1=p.1
  ·have c2:=eq_true hnm;have hin:p.1∈(kids.list.take q).map (·.1):=by
    rw[<- hnm];refine Eap.2 ⟨x,?_,rfl⟩;exact Eag (i:=r) (by rw[Eas,if_pos hrq];exact hx)
   rw[decide_eq_true hin];(refine lws ?_;simp only[go_sem,simprocAttr,c1,decide_true]);(repeat'(first|((refine Jqm ?_);simp only[go_sem,simprocAttr,hgp,c2,hgx])|fail))
  ·have c2:=eq_false hnm;have hNx:=J1f v (Jrt i kids.list r) x.1 x.2 _ hv hd;rw[<- Jx9 hx] at hNx;(refine lws ?_;simp only[go_sem,simprocAttr,c1,decide_true]);(repeat'(first|((first|refine Jqm ?_|refine Jqa hNx ?_);simp only[go_sem,simprocAttr,hgp,c2,hgx])|fail));exact ⟨r+1,⟨omg,by
    rw[Ebc,hx,Option.toList_some,Ebm,Eax];rintro (a | a)
    ·exact hn a
    ·simp at a;exact hnm a.symm⟩,omg,Jqc⟩
 ·obtain rfl:r=q:=by omega
  have c1:((Jrt i kids.list r:Int)<(Jrt i kids.list r:Int))=False:=eq_false omg;rw[decide_eq_false hn];(refine lws ?_;simp only[go_sem,simprocAttr,c1])
  skip
def Jtq (op:Int) (l:List RKT) (q:Nat) (p:RKT):Prop:=Kft op p/\(op=4->q=0->p.2.kind≠4)/\(op=8->p.1 ∉ (l.take q).map (·.1))
theorem J3t {l:List (List UInt8)}:l.Nodup ↔ ∀ q x,l[q]? = some x->x ∉ l.take q:=by
 constructor
 ·intro h q x hx hm';obtain ⟨r,hr⟩:=Ebz hm';rw[Eas] at hr;split at hr
  ·obtain ⟨a,rfl⟩:=Eab.1 hr;obtain ⟨b,hb⟩:=Eab.1 hx;exact (List.pairwise_iff_getElem.1 h) r q a b omg hb.symm
  ·cases hr
 ·intro h;refine List.pairwise_iff_getElem.2 fun i j hi hj hij e=>?_
  have hx:=Eaa hj;refine h j _ hx (Eag (i:=i) ?_);rw[Eas,if_pos hij,<- e];exact Eaa hi
theorem J5h {op:Int} {l:List RKT}:Jsy op l ↔ ∀ q p,l[q]? = some p->Jtq op l q p:=by
 unfold Jsy Jtq;constructor
 ·rintro ⟨h1,h2,h3⟩ q p hp;refine ⟨h1 p (Eag hp),fun a b=>?_,fun a=>?_⟩
  ·subst b;exact h2 a p (by rw[List.head?_eq_getElem?];exact hp)
  ·rw[Ec3];exact (J3t.1 (h3 a)) q p.1 (by simp[hp])
 ·intro h;refine ⟨fun p hp=>?_,fun a p hp=>?_,fun a=>?_⟩
  ·obtain ⟨q,hq⟩:=Ebz hp;exact (h q p hq).1
  ·exact (h 0 p (by rw[<- List.head?_eq_getElem?];exact hp)).2.1 a rfl
  ·rw[J3t];intro q x hx;rw[Eam] at hx;cases hq:l[q]? with
   | none=>rw[hq] at hx;cases hx
   | some p =>
    rw[hq] at hx;cases hx;rw[<- Ec3];exact (h q p hq).2.2 a
open Classical in
noncomputable def J0i (k:Int) (l:List RKT):Bool:=decide (Jsy k l)
theorem J8f {k:Int} {l:List RKT} (h:Jsy k l):true=J0i k l:=by unfold J0i;exact (@decide_eq_true _ (Classical.propDecidable _) h).symm
theorem J67 {k:Int} {l:List RKT} (h:¬ Jsy k l):false=J0i k l:=by unfold J0i;exact (@decide_eq_false _ (Classical.propDecidable _) h).symm
theorem Kc9 (v:List YRow) (i:Nat) (nm:List UInt8) (k:Int) (s:List UInt8) (g:Int) (e:Node) (kids:RF) (rest:List YRow) (hv:v.length<=850000000000) (h:v.drop i=(RT.mk k s g e kids).enc nm ++ rest) (hs:∀ n∈v,n.name.length<=1000000):Det cx 131 [.p (.sl (rowL v)),.p (.int .i64 i)] [] (.p (.bool (J0i k kids.list))) []:=by
 have hll:=Jq7 kids;have hkl:=Jq4 kids;rw[Jqs] at h;have hg0:=Js5 h;rw[Jr5] at hg0;have hb:=J4f h sm;simp only[Ebh,Ead,Eac] at hb;have w0:=wj1 (i:=i) omg;have hI0:=J90 k kids.len nm s g e;(refine bgo func131 ?_;simp only[go_sem,simprocAttr,hg0,w0]);refine SWP.loop (fun q:Nat=>⟨Ba 77 [(0,.p (.sl (rowL v))),(1,.p (.int .i64 i)),(5,.ptr 5 0 0),(6,.p (.int .i64 (Jrt i kids.list q))),(7,.p (.int .i64 q))],[(5,.var 38 [.p (.int .i64 k),.p (.int .i64 kids.len),.p (.str nm),.p (.str s),.p (.int .i64 g),.p (.int .i64 e.kind),.p (.int .i64 e.many),.p (.str e.name),.p (.str e.s),.p (.bool e.neg),.p (.int .i64 e.e)])]⟩) (fun q=>q<=kids.len/\∀ r p,r<q->kids.list[r]? = some p->Jtq k kids.list r p) (fun q=>kids.len - q) 0 (by rw[J2s];exact Jqc) ⟨Eau _,fun r p hr=>by omega⟩ ?_;rintro q ⟨h1,h2⟩;by_cases hq:q<kids.len
 ·have c1:((q:Int)<(kids.len:Int))=True:=eq_true omg;obtain ⟨⟨nm',k',s',g',e',kids'⟩,hp⟩:∃ p,kids.list[q]? = some p:=⟨_,Eaa omg⟩
  have hd:=Jyq h hp;have hlt:=J79 h hp;have hpos:=Jsi (.mk k' s' g' e' kids') nm';simp only at hd hlt;have hga:(rowL v)[Jrt i kids.list q]? = some [.int .i64 k',.int .i64 kids'.len,.str nm',.str s',.int .i64 g',.int .i64 e'.kind,.int .i64 e'.many,.str e'.name,.str e'.s,.bool e'.neg,.int .i64 e'.e]:=by
   rw[Jqs] at hd;exact Js5 hd
  have hnl:nm'.length<=1000000:=by
   rw[Jqs] at hd;have hm:(⟨k',kids'.len,nm',s',g',e'⟩:YRow)∈v.drop (Jrt i kids.list q):=by rw[hd];exact Eaf
   exact hs _ (Ea6 hm)
  have w1:=wj1 (i:=q) omg;have hIx:=J90 k' kids'.len nm' s' g' e';have hNx:=J1f v (Jrt i kids.list q) nm' (.mk k' s' g' e' kids') _ hv hd;rw[show Jrt i kids.list q+((RT.mk k' s' g' e' kids').enc nm').length=Jrt i kids.list (q+1) from (Jx9 hp).symm] at hNx;have hU:=Cn nm' hnl;have hH:=d_had v i ⟨k,kids.len,nm,s,g,e⟩ kids rest q (nm',.mk k' s' g' e' kids') hv h hp;simp only at hH;have hno:¬ Jtq k kids.list q (nm',.mk k' s' g' e' kids')->false=J0i k kids.list:=fun hn=>J67 fun hk=>hn (J5h.1 hk q _ hp)
  have hyes:Jtq k kids.list q (nm',.mk k' s' g' e' kids')->∀ r p,r<q+1->kids.list[r]? = some p->Jtq k kids.list r p:=fun hy r p hr hrp=>by
   by_cases e:r=q
   ·subst e;rw[hp] at hrp;cases hrp;exact hy
   ·exact h2 r p omg hrp
  by_cases hX:Jrm k'
  ·rw[decide_eq_true hX] at hIx;by_cases hY:Jrm k
   ·rw[decide_eq_true hY] at hI0;have hkd:Jrm k' ↔ Jrm k\/k=7:=⟨fun _=>.inl hY,fun _=>hX⟩
    by_cases o4:k=4
    ·have e4:=eq_true o4;have e8:(k=8)=False:=eq_false omg;by_cases q0:q=0
     ·have f0:((q:Int)=0)=True:=eq_true omg;by_cases k4:k'=4
      ·have g4:=eq_true k4;(refine lws ?_;simp only[go_sem,simprocAttr,c1,hga,decide_true]);(repeat'(first|((first|refine Jqm ?_|refine Jqb hIx ?_|refine Jqb hI0 ?_);simp only[go_sem,simprocAttr,bne_self_eq_false,e4,f0,g4])|fail))
       all_goals exact hno fun h=>h.2.1 o4 q0 k4
      ·have g4:=eq_false k4;by_cases n0:nm'=[]
       ·have fn:=eq_true n0;have hy:Jtq k kids.list q (nm',.mk k' s' g' e' kids'):=⟨⟨hkd,fun _=>n0,fun h=>absurd h omg⟩,fun _ _=>k4,fun h=>absurd h omg⟩
        (refine lws ?_;simp only[go_sem,simprocAttr,c1,hga,decide_true]);(repeat'(first|((first|refine Jqm ?_|refine Jqb hIx ?_|refine Jqb hI0 ?_|refine Jqa hNx ?_);simp only[go_sem,simprocAttr,w1,Ebi,bne_self_eq_false,e4,e8,f0,g4,fn])|fail))
        all_goals exact ⟨q+1,⟨omg,hyes hy⟩,omg,Jqc⟩
       ·have fn:=eq_false n0;(refine lws ?_;simp only[go_sem,simprocAttr,c1,hga,decide_true]);(repeat'(first|((first|refine Jqm ?_|refine Jqb hIx ?_|refine Jqb hI0 ?_);simp only[go_sem,simprocAttr,Ebi,bne_self_eq_false,e4,e8,f0,g4,fn])|fail))
        all_goals exact hno fun h=>n0 (h.1.2.1 omg)
     ·have f0:((q:Int)=0)=False:=eq_false omg;by_cases n0:nm'=[]
      ·have fn:=eq_true n0;have hy:Jtq k kids.list q (nm',.mk k' s' g' e' kids'):=⟨⟨hkd,fun _=>n0,fun h=>absurd h omg⟩,fun _ h=>absurd h q0,fun h=>absurd h omg⟩
       (refine lws ?_;simp only[go_sem,simprocAttr,c1,hga,decide_true]);(repeat'(first|((first|refine Jqm ?_|refine Jqb hIx ?_|refine Jqb hI0 ?_|refine Jqa hNx ?_);simp only[go_sem,simprocAttr,w1,Ebi,bne_self_eq_false,e4,e8,f0,fn])|fail))
       all_goals exact ⟨q+1,⟨omg,hyes hy⟩,omg,Jqc⟩
      ·have fn:=eq_false n0;(refine lws ?_;simp only[go_sem,simprocAttr,c1,hga,decide_true]);(repeat'(first|((first|refine Jqm ?_|refine Jqb hIx ?_|refine Jqb hI0 ?_);simp only[go_sem,simprocAttr,Ebi,bne_self_eq_false,e4,e8,f0,fn])|fail))
       all_goals exact hno fun h=>n0 (h.1.2.1 omg)
    ·have e4:=eq_false o4;by_cases o8:k=8
     ·have e8:=eq_true o8;cases hva:valid nm' with
      | false =>
       rw[hva] at hU;(refine lws ?_;simp only[go_sem,simprocAttr,c1,hga,decide_true]);(repeat'(first|((first|refine Jqm ?_|refine Jqb hIx ?_|refine Jqb hI0 ?_|refine Jqa hU ?_);simp only[go_sem,simprocAttr,Edj,bne_self_eq_false,e4,e8])|fail))
       all_goals exact hno fun h=>by have:=h.1.2.2 o8;simp only at this;rw[hva] at this;cases this
      | true =>
       rw[hva] at hU;by_cases hin:nm'∈(kids.list.take q).map (·.1)
       ·rw[decide_eq_true hin] at hH;(refine lws ?_;simp only[go_sem,simprocAttr,c1,hga,decide_true]);(repeat'(first|((first|refine Jqm ?_|refine Jqb hIx ?_|refine Jqb hI0 ?_|refine Jqa hU ?_|refine Jqa hH ?_);simp only[go_sem,simprocAttr,Ebi,bne_self_eq_false,e4,e8])|fail))
        all_goals exact hno fun h=>h.2.2 o8 hin
       ·rw[decide_eq_false hin] at hH;have hy:Jtq k kids.list q (nm',.mk k' s' g' e' kids'):=⟨⟨hkd,fun h=>absurd o8 h,fun _=>hva⟩,fun h=>absurd h o4,fun _=>hin⟩
        (refine lws ?_;simp only[go_sem,simprocAttr,c1,hga,decide_true]);(repeat'(first|((first|refine Jqm ?_|refine Jqb hIx ?_|refine Jqb hI0 ?_|refine Jqa hU ?_|refine Jqa hH ?_|refine Jqa hNx ?_);simp only[go_sem,simprocAttr,w1,Ebi,bne_self_eq_false,e4,e8])|fail))
        all_goals exact ⟨q+1,⟨omg,hyes hy⟩,omg,Jqc⟩
     ·have e8:=eq_false o8;by_cases n0:nm'=[]
      ·have fn:=eq_true n0;have hy:Jtq k kids.list q (nm',.mk k' s' g' e' kids'):=⟨⟨hkd,fun _=>n0,fun h=>absurd h o8⟩,fun h=>absurd h o4,fun h=>absurd h o8⟩
       (refine lws ?_;simp only[go_sem,simprocAttr,c1,hga,decide_true]);(repeat'(first|((first|refine Jqm ?_|refine Jqb hIx ?_|refine Jqb hI0 ?_|refine Jqa hNx ?_);simp only[go_sem,simprocAttr,w1,Ebi,bne_self_eq_false,e4,e8,fn])|fail))
       all_goals exact ⟨q+1,⟨omg,hyes hy⟩,omg,Jqc⟩
      ·have fn:=eq_false n0;(refine lws ?_;simp only[go_sem,simprocAttr,c1,hga,decide_true]);(repeat'(first|((first|refine Jqm ?_|refine Jqb hIx ?_|refine Jqb hI0 ?_);simp only[go_sem,simprocAttr,Ebi,bne_self_eq_false,e4,e8,fn])|fail))
       all_goals exact hno fun h=>n0 (h.1.2.1 o8)
   ·rw[decide_eq_false hY] at hI0;by_cases o7:k=7
    ·have e7:=eq_true o7;have hkd:Jrm k' ↔ Jrm k\/k=7:=⟨fun _=>.inr o7,fun _=>hX⟩
     by_cases o4:k=4
     ·have e4:=eq_true o4;have e8:(k=8)=False:=eq_false omg;by_cases q0:q=0
      ·have f0:((q:Int)=0)=True:=eq_true omg;by_cases k4:k'=4
       ·have g4:=eq_true k4;(refine lws ?_;simp only[go_sem,simprocAttr,c1,hga,decide_true]);(repeat'(first|((first|refine Jqm ?_|refine Jqb hIx ?_|refine Jqb hI0 ?_);simp only[go_sem,simprocAttr,Ecv,Ebi,e7,e4,f0,g4])|(exfalso;omega)))
        all_goals exact hno fun h=>h.2.1 o4 q0 k4
       ·have g4:=eq_false k4;by_cases n0:nm'=[]
        ·have fn:=eq_true n0;have hy:Jtq k kids.list q (nm',.mk k' s' g' e' kids'):=⟨⟨hkd,fun _=>n0,fun h=>absurd h omg⟩,fun _ _=>k4,fun h=>absurd h omg⟩
         (refine lws ?_;simp only[go_sem,simprocAttr,c1,hga,decide_true]);(repeat'(first|((first|refine Jqm ?_|refine Jqb hIx ?_|refine Jqb hI0 ?_|refine Jqa hNx ?_);simp only[go_sem,simprocAttr,w1,Ecv,Ebi,e7,e4,e8,f0,g4,fn])|(exfalso;omega)))
         all_goals exact ⟨q+1,⟨omg,hyes hy⟩,omg,Jqc⟩
        ·have fn:=eq_false n0;(refine lws ?_;simp only[go_sem,simprocAttr,c1,hga,decide_true]);(repeat'(first|((first|refine Jqm ?_|refine Jqb hIx ?_|refine Jqb hI0 ?_);simp only[go_sem,simprocAttr,Ecv,Ebi,e7,e4,e8,f0,g4,fn])|(exfalso;omega)))
         all_goals exact hno fun h=>n0 (h.1.2.1 omg)
      ·have f0:((q:Int)=0)=False:=eq_false omg;by_cases n0:nm'=[]
       ·have fn:=eq_true n0;have hy:Jtq k kids.list q (nm',.mk k' s' g' e' kids'):=⟨⟨hkd,fun _=>n0,fun h=>absurd h omg⟩,fun _ h=>absurd h q0,fun h=>absurd h omg⟩
        (refine lws ?_;simp only[go_sem,simprocAttr,c1,hga,decide_true]);(repeat'(first|((first|refine Jqm ?_|refine Jqb hIx ?_|refine Jqb hI0 ?_|refine Jqa hNx ?_);simp only[go_sem,simprocAttr,w1,Ecv,Ebi,e7,e4,e8,f0,fn])|(exfalso;omega)))
        all_goals exact ⟨q+1,⟨omg,hyes hy⟩,omg,Jqc⟩
       ·have fn:=eq_false n0;(refine lws ?_;simp only[go_sem,simprocAttr,c1,hga,decide_true]);(repeat'(first|((first|refine Jqm ?_|refine Jqb hIx ?_|refine Jqb hI0 ?_);simp only[go_sem,simprocAttr,Ecv,Ebi,e7,e4,e8,f0,fn])|(exfalso;omega)))
        all_goals exact hno fun h=>n0 (h.1.2.1 omg)
     ·have e4:=eq_false o4;by_cases o8:k=8
      ·have e8:=eq_true o8;cases hva:valid nm' with
       | false =>
        rw[hva] at hU;(refine lws ?_;simp only[go_sem,simprocAttr,c1,hga,decide_true]);(repeat'(first|((first|refine Jqm ?_|refine Jqb hIx ?_|refine Jqb hI0 ?_|refine Jqa hU ?_);simp only[go_sem,simprocAttr,Ecv,Ebi,Edj,e7,e4,e8])|(exfalso;omega)))
        all_goals exact hno fun h=>by have:=h.1.2.2 o8;simp only at this;rw[hva] at this;cases this
       | true =>
        rw[hva] at hU;by_cases hin:nm'∈(kids.list.take q).map (·.1)
        ·rw[decide_eq_true hin] at hH;(refine lws ?_;simp only[go_sem,simprocAttr,c1,hga,decide_true]);(repeat'(first|((first|refine Jqm ?_|refine Jqb hIx ?_|refine Jqb hI0 ?_|refine Jqa hU ?_|refine Jqa hH ?_);simp only[go_sem,simprocAttr,Ecv,Ebi,e7,e4,e8])|(exfalso;omega)))
         all_goals exact hno fun h=>h.2.2 o8 hin
        ·rw[decide_eq_false hin] at hH;have hy:Jtq k kids.list q (nm',.mk k' s' g' e' kids'):=⟨⟨hkd,fun h=>absurd o8 h,fun _=>hva⟩,fun h=>absurd h o4,fun _=>hin⟩
         (refine lws ?_;simp only[go_sem,simprocAttr,c1,hga,decide_true]);(repeat'(first|((first|refine Jqm ?_|refine Jqb hIx ?_|refine Jqb hI0 ?_|refine Jqa hU ?_|refine Jqa hH ?_|refine Jqa hNx ?_);simp only[go_sem,simprocAttr,w1,Ecv,Ebi,e7,e4,e8])|(exfalso;omega)))
         all_goals exact ⟨q+1,⟨omg,hyes hy⟩,omg,Jqc⟩
      ·have e8:=eq_false o8;by_cases n0:nm'=[]
       ·have fn:=eq_true n0;have hy:Jtq k kids.list q (nm',.mk k' s' g' e' kids'):=⟨⟨hkd,fun _=>n0,fun h=>absurd h o8⟩,fun h=>absurd h o4,fun h=>absurd h o8⟩
        (refine lws ?_;simp only[go_sem,simprocAttr,c1,hga,decide_true]);(repeat'(first|((first|refine Jqm ?_|refine Jqb hIx ?_|refine Jqb hI0 ?_|refine Jqa hNx ?_);simp only[go_sem,simprocAttr,w1,Ecv,Ebi,e7,e4,e8,fn])|fail))
        all_goals exact ⟨q+1,⟨omg,hyes hy⟩,omg,Jqc⟩
       ·have fn:=eq_false n0;(refine lws ?_;simp only[go_sem,simprocAttr,c1,hga,decide_true]);(repeat'(first|((first|refine Jqm ?_|refine Jqb hIx ?_|refine Jqb hI0 ?_);simp only[go_sem,simprocAttr,Ecv,Ebi,e7,e4,e8,fn])|fail))
        all_goals exact hno fun h=>n0 (h.1.2.1 o8)
    ·have e7:=eq_false o7;(refine lws ?_;simp only[go_sem,simprocAttr,c1,hga,decide_true]);(repeat'(first|((first|refine Jqm ?_|refine Jqb hIx ?_|refine Jqb hI0 ?_);simp only[go_sem,simprocAttr,Ecv,Ebi,e7])|fail))
     all_goals exact hno fun h=>(h.1.1.1 hX).elim hY o7
  ·rw[decide_eq_false hX] at hIx;by_cases hY:Jrm k
   ·rw[decide_eq_true hY] at hI0;(refine lws ?_;simp only[go_sem,simprocAttr,c1,hga,decide_true]);(repeat'(first|((first|refine Jqm ?_|refine Jqb hIx ?_|refine Jqb hI0 ?_);simp only[go_sem,simprocAttr,Bool.bne_true,Edj])|fail))
    all_goals exact hno fun h=>hX (h.1.1.2 (.inl hY))
   ·rw[decide_eq_false hY] at hI0;by_cases o7:k=7
    ·have e7:=eq_true o7;(refine lws ?_;simp only[go_sem,simprocAttr,c1,hga,decide_true]);(repeat'(first|((first|refine Jqm ?_|refine Jqb hIx ?_|refine Jqb hI0 ?_);simp only[go_sem,simprocAttr,Ecn,e7])|fail))
     all_goals exact hno fun h=>hX (h.1.1.2 (.inr o7))
    ·have e7:=eq_false o7;have hkd:Jrm k' ↔ Jrm k\/k=7:=⟨fun h=>absurd h hX,fun h=>(h.elim hY o7).elim⟩
     by_cases o4:k=4
     ·have e4:=eq_true o4;have e8:(k=8)=False:=eq_false omg;by_cases q0:q=0
      ·have f0:((q:Int)=0)=True:=eq_true omg;by_cases k4:k'=4
       ·have g4:=eq_true k4;(refine lws ?_;simp only[go_sem,simprocAttr,c1,hga,decide_true]);(repeat'(first|((first|refine Jqm ?_|refine Jqb hIx ?_|refine Jqb hI0 ?_);simp only[go_sem,simprocAttr,Ecn,e7,e4,f0,g4])|fail))
        all_goals exact hno fun h=>h.2.1 o4 q0 k4
       ·have g4:=eq_false k4;by_cases n0:nm'=[]
        ·have fn:=eq_true n0;have hy:Jtq k kids.list q (nm',.mk k' s' g' e' kids'):=⟨⟨hkd,fun _=>n0,fun h=>absurd h omg⟩,fun _ _=>k4,fun h=>absurd h omg⟩
         (refine lws ?_;simp only[go_sem,simprocAttr,c1,hga,decide_true]);(repeat'(first|((first|refine Jqm ?_|refine Jqb hIx ?_|refine Jqb hI0 ?_|refine Jqa hNx ?_);simp only[go_sem,simprocAttr,w1,Ecn,Ebi,e7,e4,e8,f0,g4,fn])|fail))
         all_goals exact ⟨q+1,⟨omg,hyes hy⟩,omg,Jqc⟩
        ·have fn:=eq_false n0;(refine lws ?_;simp only[go_sem,simprocAttr,c1,hga,decide_true]);(repeat'(first|((first|refine Jqm ?_|refine Jqb hIx ?_|refine Jqb hI0 ?_);simp only[go_sem,simprocAttr,Ecn,Ebi,e7,e4,e8,f0,g4,fn])|fail))
         all_goals exact hno fun h=>n0 (h.1.2.1 omg)
      ·have f0:((q:Int)=0)=False:=eq_false omg;by_cases n0:nm'=[]
       ·have fn:=eq_true n0;have hy:Jtq k kids.list q (nm',.mk k' s' g' e' kids'):=⟨⟨hkd,fun _=>n0,fun h=>absurd h omg⟩,fun _ h=>absurd h q0,fun h=>absurd h omg⟩
        (refine lws ?_;simp only[go_sem,simprocAttr,c1,hga,decide_true]);(repeat'(first|((first|refine Jqm ?_|refine Jqb hIx ?_|refine Jqb hI0 ?_|refine Jqa hNx ?_);simp only[go_sem,simprocAttr,w1,Ecn,Ebi,e7,e4,e8,f0,fn])|fail))
        all_goals exact ⟨q+1,⟨omg,hyes hy⟩,omg,Jqc⟩
       ·have fn:=eq_false n0;(refine lws ?_;simp only[go_sem,simprocAttr,c1,hga,decide_true]);(repeat'(first|((first|refine Jqm ?_|refine Jqb hIx ?_|refine Jqb hI0 ?_);simp only[go_sem,simprocAttr,Ecn,Ebi,e7,e4,e8,f0,fn])|fail))
        all_goals exact hno fun h=>n0 (h.1.2.1 omg)
     ·have e4:=eq_false o4;by_cases o8:k=8
      ·have e8:=eq_true o8;cases hva:valid nm' with
       | false =>
        rw[hva] at hU;(refine lws ?_;simp only[go_sem,simprocAttr,c1,hga,decide_true]);(repeat'(first|((first|refine Jqm ?_|refine Jqb hIx ?_|refine Jqb hI0 ?_|refine Jqa hU ?_);simp only[go_sem,simprocAttr,Ecn,Edj,e7,e4,e8])|fail))
        all_goals exact hno fun h=>by have:=h.1.2.2 o8;simp only at this;rw[hva] at this;cases this
       | true =>
        rw[hva] at hU;by_cases hin:nm'∈(kids.list.take q).map (·.1)
        ·rw[decide_eq_true hin] at hH;(refine lws ?_;simp only[go_sem,simprocAttr,c1,hga,decide_true]);(repeat'(first|((first|refine Jqm ?_|refine Jqb hIx ?_|refine Jqb hI0 ?_|refine Jqa hU ?_|refine Jqa hH ?_);simp only[go_sem,simprocAttr,Ecn,Ebi,e7,e4,e8])|fail))
         all_goals exact hno fun h=>h.2.2 o8 hin
        ·rw[decide_eq_false hin] at hH;have hy:Jtq k kids.list q (nm',.mk k' s' g' e' kids'):=⟨⟨hkd,fun h=>absurd o8 h,fun _=>hva⟩,fun h=>absurd h o4,fun _=>hin⟩
         (refine lws ?_;simp only[go_sem,simprocAttr,c1,hga,decide_true]);(repeat'(first|((first|refine Jqm ?_|refine Jqb hIx ?_|refine Jqb hI0 ?_|refine Jqa hU ?_|refine Jqa hH ?_|refine Jqa hNx ?_);simp only[go_sem,simprocAttr,w1,Ecn,Ebi,e7,e4,e8])|fail))
         all_goals exact ⟨q+1,⟨omg,hyes hy⟩,omg,Jqc⟩
      ·have e8:=eq_false o8;by_cases n0:nm'=[]
       ·have fn:=eq_true n0;have hy:Jtq k kids.list q (nm',.mk k' s' g' e' kids'):=⟨⟨hkd,fun _=>n0,fun h=>absurd h o8⟩,fun h=>absurd h o4,fun h=>absurd h o8⟩
        (refine lws ?_;simp only[go_sem,simprocAttr,c1,hga,decide_true]);(repeat'(first|((first|refine Jqm ?_|refine Jqb hIx ?_|refine Jqb hI0 ?_|refine Jqa hNx ?_);simp only[go_sem,simprocAttr,w1,Ecn,Ebi,e7,e4,e8,fn])|fail))
        all_goals exact ⟨q+1,⟨omg,hyes hy⟩,omg,Jqc⟩
       ·have fn:=eq_false n0;(refine lws ?_;simp only[go_sem,simprocAttr,c1,hga,decide_true]);(repeat'(first|((first|refine Jqm ?_|refine Jqb hIx ?_|refine Jqb hI0 ?_);simp only[go_sem,simprocAttr,Ecn,Ebi,e7,e4,e8,fn])|fail))
        all_goals exact hno fun h=>n0 (h.1.2.1 o8)
 ·obtain rfl:q=kids.len:=by omega
  have c1:((kids.len:Int)<(kids.len:Int))=False:=eq_false omg;have hK:Jsy k kids.list:=J5h.2 fun r p hp=>h2 r p (by rw[<- hkl];exact (Eab.1 hp).1) hp
  (refine lws ?_;simp only[go_sem,simprocAttr,c1]);exact J8f hK
theorem Kcc (v:List YRow) (hv:v.length<=10000) (hf:∀ n∈v,RowFit n):Det cx 80 [.p (.sl (rowL v))] [] (.p (.bool (Juz v))) []:=by
 cases v with
 | nil =>
  have hb:false=Juz []:=Jva (by
   rintro ⟨t,_,h⟩;have:=congrArg List.length h;have h1:=Jsi t [];simp at this;omega)
  have c0:(((rowL []).length:Int)=0)=True:=eq_true rfl;rw[<- hb];(refine bgo func80 ?_;simp only[go_sem,simprocAttr,c0])
  skip
 | cons n r =>
  have hg0:=Jzc (v:=n :: r) (i:=0) (n:=n) rfl;have c0:(((n :: r).length:Int)=0)=False:=eq_false (by simp;omega);have hN:=J97 (n :: r) hv;generalize hvv:n :: r=v at *
  by_cases hnm:n.name=[]
  ·have c2:=eq_true hnm;by_cases hnx:Jtm v 0 1=v.length
   ·obtain ⟨nm,t,ht⟩:=J9g hnx;have htk:nm=[]:=by
     cases t with
     | mk k s g e kids =>
      rw[Jqs,<- hvv] at ht;have:=(List.cons.inj ht).1;rw[this] at hnm;exact hnm
    subst htk;have c3:(Jtm v 0 1=(v.length:Int))=True:=eq_true hnx;(refine bgo func80 ?_;simp only[go_sem,simprocAttr,Jq0,hg0,c0,c2,not_true_eq_false]);(repeat'(first|((refine Jqa hN ?_);simp only[go_sem,simprocAttr,Jq0,c3,not_true_eq_false])|fail));have hB:∀ b:Bool,(b=true ↔ okQ t)->b=Juz v:=by
     intro b hb;rw[Ea4,hb,Ju6,ht,J9l]
    refine SWP.loop (fun x:Nat×RF=>⟨Ba 39 [(0,.p (.sl (rowL v))),(3,.p (.int .i64 x.1))],[]⟩) (fun x=>v.drop x.1=x.2.enc/\x.1+x.2.enc.length=v.length/\(okQ t ↔ okQF x.2)) (fun x=>v.length - x.1) (0,.cons [] t .nil) Jqc ⟨by rw[Jqv,Jsd,Eaw,Ebn,ht],by rw[Jqv,Jsd,Eaw,ht];simp,by rw[Jvi];exact ⟨fun h=>⟨h,Jvm⟩,fun h=>h.1⟩⟩ ?_;rintro ⟨i,F⟩ ⟨h1,h2,h3⟩;simp only at h1 h2 h3
    match F,h1,h2,h3 with
    | .nil,h1,h2,h3 =>
     rw[Jsd] at h2;have c4:((i:Int)<(v.length:Int))=False:=eq_false (by simp at h2;omega);(refine lws ?_;simp only[go_sem,simprocAttr,Jq0,decide_false,c4]);exact hB true (by rw[h3];simp[Jvm])
    | .cons nm' (.mk k s g e kids) r,h1,h2,h3 =>
     rw[Jqv,Jqs] at h1 h2;simp only[Eac,Ead] at h2;have c4:((i:Int)<(v.length:Int))=True:=eq_true omg;have hga:=Js5 h1;rw[Jr5] at hga;have w1:=wj1 (i:=i) omg;rw[Kcy] at h3;have hmem:(⟨k,kids.len,nm',s,g,e⟩:YRow)∈v:=by
      have:(⟨k,kids.len,nm',s,g,e⟩:YRow)∈v.drop i:=by rw[h1];simp
      exact Ea6 this
     have hfn:=hf _ hmem;have hpl:=Kdh k kids.len nm' s g e hfn.s hfn.c;have hri:=Kc9 v i nm' k s g e kids r.enc omg (by rw[h1,Jqs]) fun n hn=>(hf n hn).name
     by_cases hn1:Jqq k s g e kids.len
     ·rw[decide_eq_true hn1] at hpl;by_cases hk1:Jsy k kids.list
      ·rw[<- J8f hk1] at hri;(refine lws ?_;simp only[go_sem,simprocAttr,Jq0,decide_true,c4,hga,decide_true]);(repeat'(first|((first|refine Jqa hpl ?_|refine Jqa hri ?_);simp only[go_sem,simprocAttr,w1,Ebi])|fail));refine ⟨(i+1,kids.app r),⟨?_,?_,h3.trans ⟨fun h=>h.2.2,fun h=>⟨hn1,hk1,h⟩⟩⟩,?_,Jqc⟩
       ·simp only;rw[<- Ebj,h1,Jq6];rfl
       ·simp only;rw[Jq6,Eac];omega
       ·simp only;omega
      ·rw[<- J67 hk1] at hri;(refine lws ?_;simp only[go_sem,simprocAttr,Jq0,decide_true,c4,hga,decide_true]);(repeat'(first|((first|refine Jqa hpl ?_|refine Jqa hri ?_);simp only[go_sem,simprocAttr,Ebi,Edj])|fail));exact hB false (by rw[h3];simp[hk1])
     ·rw[decide_eq_false hn1] at hpl;(refine lws ?_;simp only[go_sem,simprocAttr,Jq0,decide_true,c4,hga,decide_true]);(repeat'(first|((refine Jqa hpl ?_);simp only[go_sem,simprocAttr,Edj])|fail));exact hB false (by rw[h3];simp[hn1])
   ·have c3:(Jtm v 0 1=(v.length:Int))=False:=eq_false hnx;have hb:=Jva (v:=v) (fun h=>hnx (J8s h));rw[<- hb];(refine bgo func80 ?_;simp only[go_sem,simprocAttr,Jq0,hg0,c0,c2,not_true_eq_false]);(repeat'(first|((refine Jqa hN ?_);simp only[go_sem,simprocAttr,Jq0,c3,not_false_eq_true])|fail))
  ·have c2:=eq_false hnm;have hb:=Jva (v:=v) (by
    rintro ⟨t,_,h⟩;cases t with
    | mk k s g e kids =>
     rw[Jqs,<- hvv] at h;have:=(List.cons.inj h).1;rw[this] at hnm;exact hnm rfl)
   rw[<- hb];(refine bgo func80 ?_;simp only[go_sem,simprocAttr,Jq0,hg0,c0,c2,not_false_eq_true])
   skip
theorem Kbs (v:List YRow) (hv:v.length<=10000) (hf:∀ n∈v,RowFit n):Det cx 28 [.p (.sl (rowL v))] [] (.p (.bool (Jtz v))) []:=by
 have hW:=Kcc v hv hf;cases hb:Juz v with
 | false =>
  have:false=Jtz v:=Jxy fun ⟨t,h1,_,h3⟩=>by
   rw[Ju6.2 ⟨t,h1,h3⟩] at hb;cases hb
  rw[hb] at hW;rw[<- this];(refine bgo func28 ?_;simp only[go_sem,simprocAttr]);(repeat'(first|((refine Jqa hW ?_);simp only[go_sem,simprocAttr])|fail))
 | true =>
  obtain ⟨⟨k,s,n,c,kids⟩,ht,rfl⟩:=Ju6.1 hb;rw[hb] at hW;have hI:=J90 k kids.len [] s n c;have hg0:(rowL ((RT.mk k s n c kids).enc []))[0]? = some [.int .i64 k,.int .i64 kids.len,.str [],.str s,.int .i64 n,.int .i64 c.kind,.int .i64 c.many,.str c.name,.str c.s,.bool c.neg,.int .i64 c.e]:=by rw[Jqs];rfl
  by_cases hc:Jrm k
  ·have:false=Jtz ((RT.mk k s n c kids).enc []):=Jxy fun h=>(J3e.1 h).2 hc
   rw[decide_eq_true hc] at hI;rw[<- this];generalize rowL ((RT.mk k s n c kids).enc [])=rows at *
   (refine bgo func28 ?_;simp only[go_sem,simprocAttr]);(repeat'(first|((first|refine Jqa hW ?_|refine Jqa hI ?_);simp only[go_sem,simprocAttr,hg0,Ebi])|fail))
  ·have:Jtz ((RT.mk k s n c kids).enc [])=true:=Jwr.2 (J3e.2 ⟨ht,hc⟩);rw[decide_eq_false hc] at hI;rw[this];generalize rowL ((RT.mk k s n c kids).enc [])=rows at *
   (refine bgo func28 ?_;simp only[go_sem,simprocAttr]);(repeat'(first|((first|refine Jqa hW ?_|refine Jqa hI ?_);simp only[go_sem,simprocAttr,hg0,Edj])|fail))
noncomputable def Jvn (v:List YRow) (m:Nat):Bool:=Jyz v m && Jtz v
theorem Kha (v:List YRow) (m:Nat) (hm':m<=1000) (hv:v.length<=9223372036854775807) (hf:∀ n∈v,ERow n):Det cx 33 [.p (.sl (rowL v)),.p (.int .i64 m)] [] (.p (.bool (Jvn v m))) []:=by
 by_cases hl:v.length<=m
 ·have c0:((m:Int)<(v.length:Int))=False:=eq_false omg;have hsh:Jyz v m=v.all shortY:=by unfold Jyz;rw[decide_eq_true hl,Bool.true_and]
  (refine bgo func33 ?_;simp only[go_sem,simprocAttr,Jq0,c0]);refine SWP.loop (fun i:Nat=>⟨Ba 44 [(0,.p (.sl (rowL v))),(1,.p (.int .i64 m)),(5,.p (.int .i64 i))],[]⟩) (fun i=>i<=v.length/\∀ r∈v.take i,shortY r=true) (fun i=>v.length - i) 0 Jqc ⟨Eau _,by simp⟩ ?_;rintro i ⟨hi,ha⟩;by_cases hlt:i<v.length
  ·have c1:((i:Int)<(v.length:Int))=True:=eq_true omg;obtain ⟨r,hr⟩:∃ r,v[i]? = some r:=⟨_,Eaa hlt⟩
   have hg:=Jzc hr;have w1:=wj1 (i:=i) omg;have hno:¬ shortY r=true->false=Jvn v m:=fun hn=>by
    have:v.all shortY=false:=by
     rw[List.all_eq_false];exact ⟨r,Eag hr,hn⟩
    unfold Jvn;rw[hsh,this];rfl
   have hsr:shortY r=true ↔ r.s.length<=100/\r.name.length<=100/\r.c.s.length<=100:=by simp[shortY]
   by_cases a1:r.s.length<=100
   ·have d1:((100:Int)<(r.s.length:Int))=False:=eq_false omg;by_cases a2:r.name.length<=100
    ·have d2:((100:Int)<(r.name.length:Int))=False:=eq_false omg;by_cases a3:r.c.s.length<=100
     ·have d3:((100:Int)<(r.c.s.length:Int))=False:=eq_false omg;(refine lws ?_;simp only[go_sem,simprocAttr,Jq0,c1,hg,w1,d1,d2,d3,decide_false]);exact ⟨i+1,⟨omg,fun x hx=>by
       rw[Ebc,hr,Option.toList_some] at hx;rcases Eax.1 hx with hx | hx
       ·exact ha x hx
       ·simp only[Ea0] at hx;subst hx;exact hsr.2 ⟨a1,a2,a3⟩⟩,omg,Jqc⟩
     ·have d3:((100:Int)<(r.c.s.length:Int))=True:=eq_true omg;(refine lws ?_;simp only[go_sem,simprocAttr,Jq0,c1,hg,d1,d2,d3,decide_false,decide_true])
      all_goals exact hno fun h=>a3 (hsr.1 h).2.2
    ·have d2:((100:Int)<(r.name.length:Int))=True:=eq_true omg;(refine lws ?_;simp only[go_sem,simprocAttr,Jq0,c1,hg,d1,d2,decide_false,decide_true])
     all_goals exact hno fun h=>a2 (hsr.1 h).2.1
   ·have d1:((100:Int)<(r.s.length:Int))=True:=eq_true omg;(refine lws ?_;simp only[go_sem,simprocAttr,Jq0,c1,hg,d1,decide_true])
    all_goals exact hno fun h=>a1 (hsr.1 h).1
  ·obtain rfl:i=v.length:=by omega
   have c1:((v.length:Int)<(v.length:Int))=False:=eq_false omg;rw[Edc] at ha;have hR:=Kbs v omg (fun n hn=>by
    have h1:=ha n hn;have h2:=hf n hn;simp only[shortY,Ebb,decide_eq_true_eq] at h1;exact ⟨omg,omg,omg,h2.e0,h2.e1⟩)
   rw[show Jvn v m=Jtz v by unfold Jvn;rw[hsh,Eby.2 ha,Bool.true_and]];(refine lws ?_;simp only[go_sem,simprocAttr,Jq0,c1]);(repeat'(first|((refine Jqa hR ?_);simp only[go_sem,simprocAttr])|fail))
 ·have c0:((m:Int)<(v.length:Int))=True:=eq_true omg;rw[show Jvn v m=false by unfold Jvn Jyz;rw[decide_eq_false hl];rfl];(refine bgo func33 ?_;simp only[go_sem,simprocAttr,Jq0,c0])
  skip
end Go.LX
