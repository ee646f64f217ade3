/- Membership: objects, entries, tuples. -/
import Derived.Test.YtaghbedfogiopaaGreatDoorLxV
import Derived.WalkSpells
import Derived.Shelf.SlicesE.Delete
set_option linter.unusedSimpArgs false
set_option linter.unusedVariables false
set_option linter.unusedSectionVars false
set_option linter.unnecessarySimpa false
set_option maxRecDepth 100000
set_option maxHeartbeats 2000000
namespace Go.LX
open Go Go.RowKit Go.Proofs
attribute [local irreducible] Al SWP Bi
def Jrc (x:Step) (t:Tree):Except Nat Tree :=
 if t.kind=0 then .ok nilT else if x.part=true then (if t.kind=5 then .ok ((t.kids.list[x.n.toNat]?.map (·.2)).getD nilT) else .error 5) else if t.kind=6 then .ok ((Ch x.name t.kids.list).getD nilT) else .error 5
def Jrd:List Step->Tree->Except Nat Tree
 | [],t=>.ok t
 | x :: p,t=>match Jrc x t with
  | .ok u=>Jrd p u
  | .error e=>.error e
theorem J7x:valL (nilT.enc [])=[[.int .i64 0,.int .i64 0,.str [],.str [],.bool false,.int .i64 0]]:=by unfold nilT;rw [A6,Bl];rfl
theorem Jt1:(nilT.enc []).length=1:=by unfold nilT;rw [A6,Bl];rfl
def resV:Except Nat Tree->PV
 | .ok t=>.sl (valL (t.enc []))
 | .error _=>.snil
def resE:Except Nat Tree->Int
 | .ok _=>0
 | .error e=>e
theorem Jqz (r:Except Nat Tree):getR r=.tup [resV r,.int .i64 (resE r)]:=by cases r <;> rfl
theorem Jvo {x:Step} {t u:Tree} (h:Jrc x t=.ok u):(u.enc []).length<=(t.enc []).length:=by
 have h1:=Et t [];have hn:(nilT.enc []).length<=(t.enc []).length:=by rw [Jt1];exact h1
 have hk:∀ p∈t.kids.list,(p.2.enc []).length<=(t.enc []).length:=by
  obtain ⟨k,s,g,e,kids⟩:=t;intro p hp;have:=Jd7 hp;rw [A6,List.length_cons];simp only [Tree.kids] at this;omega
 unfold Jrc at h;split at h
 ·cases h;exact hn
 ·split at h
  ·split at h
   ·cases h;cases hq:t.kids.list[x.n.toNat]? with
    | none=>exact hn
    | some p=>exact hk p (Eae hq)
   ·cases h
  ·split at h
   ·cases h;cases hq:Ch x.name t.kids.list with
    | none=>exact hn
    | some w =>
     obtain ⟨p,hp,rfl,_⟩:=H2 hq;exact hk p hp
   ·cases h
theorem Juj {x:Step} {t:Tree} {er:Nat} (h:Jrc x t=.error er):er=5:=by
 unfold Jrc at h
 repeat' split at h
 all_goals first
  | (cases h;rfl)
  | cases h
theorem Jxh:∀ {p:List Step} {t u:Tree},Jrd p t=.ok u->(u.enc []).length<=(t.enc []).length
 | [],t,u,h=>by rw [Jrd] at h;cases h;exact Eai _
 | x :: p,t,u,h=>by
  rw [Jrd] at h;cases hs:Jrc x t with
  | ok w=>rw [hs] at h;exact Nat.le_trans (Jxh h) (Jvo hs)
  | error e=>rw [hs] at h;cases h
theorem Jsp:∀ {p:List Step} {t:Tree} {er:Nat},Jrd p t=.error er->er=5
 | [],t,er,h=>by rw [Jrd] at h;cases h
 | x :: p,t,er,h=>by
  rw [Jrd] at h;cases hs:Jrc x t with
  | ok w=>rw [hs] at h;exact Jsp h
  | error e=>rw [hs] at h;cases h;exact Juj hs
theorem J3f {nm:List UInt8} {n:Int} {s:List UInt8} {g:Bool} {e:Int} {kids:Forest} {b:Bool}:Jrc ⟨b,nm,n⟩ (.mk 0 s g e kids)=.ok nilT:=by unfold Jrc;exact if_pos rfl
theorem Jw4 {nm:List UInt8} {n:Int} {s:List UInt8} {g:Bool} {e:Int} {kids:Forest}:Jrc ⟨false,nm,n⟩ (.mk 6 s g e kids)=.ok ((Ch nm kids.list).getD nilT):=by unfold Jrc;simp [Tree.kind,Tree.kids]
theorem Jyn {nm:List UInt8} {n:Int} {k:Int} {s:List UInt8} {g:Bool} {e:Int} {kids:Forest} (h0:¬ k=0) (h6:¬ k=6):Jrc ⟨false,nm,n⟩ (.mk k s g e kids)=.error 5:=by unfold Jrc;simp [Tree.kind,h0,h6]
theorem Jza {nm:List UInt8} {n:Int} {s:List UInt8} {g:Bool} {e:Int} {kids:Forest}:Jrc ⟨true,nm,n⟩ (.mk 5 s g e kids)=.ok ((kids.list[n.toNat]?.map (·.2)).getD nilT):=by unfold Jrc;simp [Tree.kind,Tree.kids]
theorem J3l {nm:List UInt8} {n:Int} {k:Int} {s:List UInt8} {g:Bool} {e:Int} {kids:Forest} (h0:¬ k=0) (h6:¬ k=5):Jrc ⟨true,nm,n⟩ (.mk k s g e kids)=.error 5:=by unfold Jrc;simp [Tree.kind,h0,h6]
def Ju8 (ks:List Tree) (st:List (List Nat)×List Nat) (a:Nat):List (List Nat)×List Nat :=
 if st.2≠[]/\cmpT (Jq3 ks a) (Jq3 ks (st.2.headD 0))≠0 then (st.1 ++ [st.2],[a]) else (st.1,st.2 ++ [a])
def Jrj (ks:List Tree) (l:List Nat):List (List Nat)×List Nat:=l.foldl (Ju8 ks) ([],[])
def Jrp (st:List (List Nat)×List Nat):List (List Nat):=if st.2=[] then st.1 else st.1 ++ [st.2]
def Jri (ks:List Tree):List (List Nat):=Jrp (Jrj ks (Jra ks))
theorem Kaw (ks:List Tree) (l:List Nat) (a:Nat):Jrj ks (l ++ [a])=Ju8 ks (Jrj ks l) a:=by simp [Jrj,List.foldl_append]
theorem Jye {ks:List Tree} {l:List Nat} {i a:Nat} (h:l[i]? = some a):Jrj ks (l.take (i+1))=Ju8 ks (Jrj ks (l.take i)) a:=by
 rw [Ea8,h,Option.toList_some,Kaw]
structure GInv (ks:List Tree) (l:List Nat) (st:List (List Nat)×List Nat):Prop where
 flat:st.1.flatten ++ st.2=l
 opn:l≠[]->st.2≠[]
 ne:∀ g∈st.1,g≠[]
 same:∀ g∈Jrp st,∀ i∈g,Jq3 ks i=Jq3 ks (g.headD 0)
 rise:(Jrp st).Pairwise fun g h=>cmpT (Jq3 ks (g.headD 0)) (Jq3 ks (h.headD 0))<0
theorem Kfq {g:List Nat} (h:g≠[]):g.headD 0∈g:=by
 cases g with
 | nil=>exact absurd rfl h
 | cons a g=>exact Eaf
theorem Jt4 {st:List (List Nat)×List Nat} (h:st.2≠[]):Jrp st=st.1 ++ [st.2]:=by rw [Jrp,if_neg h]
theorem Kb8 {ks:List Tree} (ok:okK ks) {l:List Nat} {a:Nat} {st:List (List Nat)×List Nat} (h:GInv ks l st) (hl:∀ x∈l,cmpT (Jq3 ks x) (Jq3 ks a)<=0):GInv ks (l ++ [a]) (Ju8 ks st a):=by
 obtain ⟨o,g⟩:=st;obtain ⟨h1,h2,h3,h4,h5⟩:=h;unfold Ju8;simp only at h1 h2 h3 h4 h5 ⊢;by_cases hg:g=[]
 ·subst hg;have hl0:l=[]:=Classical.byContradiction fun e=>h2 e rfl
  subst hl0;rw [Eaz] at h1;rw [if_neg sm];have ho:o=[]:=by
   cases o with
   | nil=>rfl
   | cons x o =>
    rw [List.flatten_cons] at h1;have:=h3 x Eaf;exact absurd (List.append_eq_nil_iff.1 h1).1 this
  subst ho;refine ⟨rfl,fun _=>by simp,fun _ h=>(by cases h),fun g hg i hi=>?_,?_⟩
  ·simp [Jrp] at hg;subst hg;simp at hi;subst hi;rfl
  ·simp [Jrp]
 ·have hh:=Kfq hg;have hml:∀ x∈g,x∈l:=fun x hx=>by rw [<- h1];exact Eb8 _ hx
  have hle:=hl _ (hml _ hh);rw [Jt4 hg] at h4 h5;simp only at h4 h5;by_cases hc:cmpT (Jq3 ks a) (Jq3 ks (g.headD 0))=0
  ·rw [if_neg (fun h=>h.2 hc)];have hk:=Jzv (Jtb ok a) (Jtb ok _) hc;have hd:((g ++ [a]).headD 0)=g.headD 0:=by
    cases g with
    | nil=>exact absurd rfl hg
    | cons x g=>rfl
   refine ⟨by rw [<- Ea2,h1],fun _=>by simp,h3,?_,?_⟩
   ·rw [Jt4 sm];intro q hq i hi;rcases Eau.1 hq with hq | hq
    ·exact h4 q (Eb7 _ hq) i hi
    ·simp only [Eay] at hq;subst hq;rw [hd];rcases Eau.1 hi with hi | hi
     ·exact h4 g (Eb8 _ (Eay.2 rfl)) i hi
     ·simp only [Eay] at hi;subst hi;exact hk
   ·rw [Jt4 sm];simp only;rw [Eb6] at h5 ⊢;refine ⟨h5.1,by simp,fun q hq r hr=>?_⟩;simp only [Eay] at hr;subst hr;rw [hd];exact h5.2.2 q hq g (Eay.2 rfl)
  ·rw [if_pos ⟨hg,hc⟩];have hlt:cmpT (Jq3 ks (g.headD 0)) (Jq3 ks a)<0:=by
    rw [J0g (Jtb ok _) (Jtb ok _)] at hc;omega
   refine ⟨by rw [Edb,List.flatten_cons,List.flatten_nil,Eaz,h1],fun _=>by simp,fun q hq=>?_,?_,?_⟩
   ·rcases Eau.1 hq with hq | hq
    ·exact h3 q hq
    ·simp only [Eay] at hq;subst hq;exact hg
   ·rw [Jt4 sm];intro q hq i hi;rcases Eau.1 hq with hq | hq
    ·exact h4 q hq i hi
    ·simp only [Eay] at hq;subst hq;simp only [Eay] at hi;subst hi;rfl
   ·rw [Jt4 sm];simp only;rw [Eb6];refine ⟨h5,by simp,fun q hq r hr=>?_⟩;simp only [Eay] at hr;subst hr;show cmpT (Jq3 ks (q.headD 0)) (Jq3 ks a)<0;rcases Eau.1 hq with hq' | hq'
    ·exact J1v (Jtb ok _) (Jtb ok _) (Jtb ok _) ((Eb6.1 h5).2.2 q hq' g (Eay.2 rfl)) hlt
    ·simp only [Eay] at hq';subst hq';exact hlt
theorem Jxk {ks:List Tree} (ok:okK ks) {l:List Nat} (hl:l.Pairwise fun a b=>cmpT (Jq3 ks a) (Jq3 ks b)<=0):∀ i,i<=l.length->GInv ks (l.take i) (Jrj ks (l.take i))
 | 0,_=>by
  rw [List.take_zero];exact ⟨rfl,fun h=>absurd rfl h,fun _ h=>(by cases h),fun _ h=>by simp [Jrj,Jrp] at h,by simp [Jrj,Jrp]⟩
 | i+1,h=>by
  obtain ⟨a,ha⟩:∃ a,l[i]? = some a:=⟨_,Eaa omg⟩
  rw [Jye ha,Ea8,ha,Option.toList_some];refine Kb8 ok (Jxk ok hl i omg) fun x hx=>?_
  have h2:(l.take i ++ [a]).Pairwise fun a b=>cmpT (Jq3 ks a) (Jq3 ks b)<=0:=by
   have h3:(l.take (i+1)).Pairwise fun a b=>cmpT (Jq3 ks a) (Jq3 ks b)<=0:=List.Pairwise.sublist (List.take_sublist _ _) hl
   rw [Ea8,ha,Option.toList_some] at h3;exact h3
  exact (Eb6.1 h2).2.2 x hx a (Eay.2 rfl)
theorem J6h {ks:List Tree} (ok:okK ks):(Jra ks).Pairwise fun a b=>cmpT (Jq3 ks a) (Jq3 ks b)<=0 :=
 (Jz2 ok).imp fun {a b} e=>by
  unfold ltB at e;rw [decide_eq_true_eq] at e;omega
theorem Jt6 {ks:List Tree} (ok:okK ks):GInv ks (Jra ks) (Jrj ks (Jra ks)):=by
 have:=Jxk ok (J6h ok) (Jra ks).length (Eai _);rw [List.take_length] at this;exact this
theorem Jv2 {ks:List Tree} {l:List Nat} {st:List (List Nat)×List Nat} (h:GInv ks l st):(Jrp st).flatten=l:=by
 obtain ⟨o,g⟩:=st;have h1:=h.flat;unfold Jrp;simp only at h1 ⊢;split
 ·rename_i e;rw [e,Eaz] at h1;exact h1
 ·rw [Edb,List.flatten_cons,List.flatten_nil,Eaz];exact h1
theorem J23 {ks:List Tree} {l:List Nat} {st:List (List Nat)×List Nat} (h:GInv ks l st):∀ g∈Jrp st,g≠[]:=by
 obtain ⟨o,g⟩:=st;intro q hq;unfold Jrp at hq;simp only at hq;split at hq
 ·exact h.ne q hq
 ·rcases Eau.1 hq with hq | hq
  ·exact h.ne q hq
  ·simp only [Eay] at hq;subst hq;assumption
theorem Kc0 (l:List Tree) (gs:List (List Nat)):(gs.map (Jqo l)).flatten=Jqo l gs.flatten:=by
 unfold Jqo;rw [List.map_flatten]
structure NodeFitC (n:Node):Prop where
 s:n.s.length<=1000000
 e0:-9223372036854775808<=n.e
 e1:n.e<=9223372036854775807
theorem Jy2 (n:Node) (hnm:n.name≠[]):Det cx 24 [.p (.sl [[.int .i64 n.kind,.int .i64 n.many,.str n.name,.str n.s,.bool n.neg,.int .i64 n.e]])] [] (.p (.bool false)) []:=by
 have hg0:([[PV.int .i64 n.kind,PV.int .i64 n.many,PV.str n.name,PV.str n.s,PV.bool n.neg,PV.int .i64 n.e]]:List (List PV))[0]? = some [PV.int .i64 n.kind,PV.int .i64 n.many,PV.str n.name,PV.str n.s,PV.bool n.neg,PV.int .i64 n.e]:=rfl;have c2:(n.name=[])=False:=eq_false hnm;have hN:=Uv [n] sm;rw [show valL [n]=[[.int .i64 n.kind,.int .i64 n.many,.str n.name,.str n.s,.bool n.neg,.int .i64 n.e]] from rfl] at hN;(refine bgo Tryz.func24 ?_;simp only [go_sem,simprocAttr,hg0,c2,List.length_cons,List.length_nil])
 skip
theorem Jre {c:Node}:c=Juf ↔ c.kind=0/\c.many=0/\c.name=[]/\c.s=[]/\c.neg=false/\c.e=0:=by
 rw [<- Qo];rfl
structure RowFit (r:YRow):Prop where
 s:r.s.length<=1000000
 name:r.name.length<=1000000
 c:NodeFitC r.c
end Go.LX
namespace Go.LX
open Go
def incR:List UInt8->List UInt8
 | []=>[]
 | c :: r=>if c=57 then 48 :: incR r else (c+1) :: r
def decR:List UInt8->List UInt8
 | []=>[]
 | c :: r=>if c=48 then 57 :: decR r else (c - 1) :: r
def moreS (s:List UInt8):List UInt8:=(incR (48 :: s).reverse).reverse
def lessS (s:List UInt8):List UInt8:=(decR s.reverse).reverse
def Kbf (n:Node) (e:Int):List UInt8:=n.s ++ List.replicate (n.e - e).toNat 48
def topR (n:Node) (above:Bool):Int:=if (n.neg != above)=false/\n.s=[49] then (n.s.length:Int)+n.e - 1 else n.s.length+n.e
def J6g (n:Node) (above:Bool):Int:=max (topR n above - 100) (-1000)
def J60 (n:Node) (above:Bool):List UInt8:=if (n.neg != above)=true then moreS (Kbf n (J6g n above)) else lessS (Kbf n (J6g n above))
def Kbn (n:Node) (above:Bool):Option Node :=
 if n.s=[] then some ⟨3,0,[],[49],!above,-1000⟩
 else if (make n.neg (J60 n above) (J6g n above)).2=0 then some (make n.neg (J60 n above) (J6g n above)).1 else none
def numC (a:Int×Node):List Node:=if a.2.kind=3 then a.2 :: ((Kbn a.2 true).toList ++ (Kbn a.2 false).toList) else []
def strC (a:Int×Node):List Node:=if a.2.kind=4 then [a.2,⟨4,0,[],a.2.s ++ [0],false,0⟩] else []
def J7b (k:Int):Node:=⟨k,0,[],[],false,0⟩
def candA (l:List (Int×Node)):List Node:=[J7b 0,J7b 1,J7b 2,J7b 3] ++ l.flatMap numC
def candR (l:List (Int×Node)):List Node:=candA l ++ [J7b 4] ++ l.flatMap strC
theorem Kf8:∀ s,(incR s).length=s.length
 | []=>rfl
 | c :: r=>by unfold incR;split <;> simp [Kf8 r]
theorem Ked:∀ s,(decR s).length=s.length
 | []=>rfl
 | c :: r=>by unfold decR;split <;> simp [Ked r]
end Go.LX
namespace Go.LX
open Go Go.Proofs Go.RowKit
structure BytesOwn (w wr:World) (l:List UInt8):Prop where
 below:Below w.heap.size w wr
 cell:∀ (k:Nat) (c:UInt8),l[k]? = some c->wr.cell? ⟨w.heap.size,k,none⟩=some (.int .u8 (c.toNat:Int))
 soft:∀ k,k<l.length->wr.frozen? ⟨w.heap.size,k,none⟩=false
theorem BytesOwn.set {w wr:World} {l:List UInt8} (h:BytesOwn w wr l) {k:Nat} (hk:k<l.length) (c:UInt8) (v:Int) (hv:v=(c.toNat:Int)):BytesOwn w (wr.setCell ⟨w.heap.size,k,none⟩ (.int .u8 v)) (l.set k c) where
 below:=h.below.setCell (Nat.le_refl _) _
 cell i d hi:=by
  subst hv;by_cases hik:i=k
  ·subst hik;rw [List.getElem?_set_self hk] at hi;cases hi;exact World.cell?_setCell_same _ _ _ (h.cell i l[i] (List.getElem?_eq_getElem hk))
  ·rw [List.getElem?_set_ne (Ne.symm hik)] at hi;rw [World.cell?_setCell_other _ _ _ _ (by intro e;cases e;exact hik rfl)];exact h.cell i d hi
 soft i hi:=by
  rw [World.frozen?_setCell];exact h.soft i (by simpa using hi)
theorem BytesOwn.bytes {w wr:World} {l:List UInt8} (h:BytesOwn w wr l):Lib.Bytes wr w.heap.size 0 ⟨l.toArray⟩:=by
 intro i hi;have hi':i<l.length:=hi;rw [Nat.zero_add];exact h.cell i l[i] (List.getElem?_eq_getElem hi')
def stepAt (x y:UInt8) (pre:List UInt8) (c:UInt8) (j r:Nat):List UInt8:=pre ++ c :: (List.replicate (r - j) x ++ List.replicate j y)
end Go.LX
namespace Go.LX
open Go
end Go.LX
namespace Go.LX
open Go Go.RowKit Go.Proofs
attribute [local irreducible] Al SWP Bi
def Ke8 (l:List YRow):List (Int×Node):=l.map fun r=>(r.n,r.c)
def atomsIn (v:List YRow) (i m:Nat):List (Int×Node):=Ke8 ((v.drop (i+1)).take m)
def shortY (r:YRow):Bool:=decide (r.s.length<=100) && (decide (r.name.length<=100) && decide (r.c.s.length<=100))
def nameR (nm:List UInt8):List YRow->List YRow
 | []=>[]
 | r :: rs=>⟨r.kind,r.many,nm,r.s,r.n,r.c⟩ :: rs
def typesL (ls:List (List YRow)):List (List PV):=ls.map fun v=>[.sl (rowL v)]
def namesL (ns:List (List UInt8)):List (List PV):=ns.map fun s=>[.str s]
def rfL:List RKT->RF
 | []=>.nil
 | p :: l=>.cons p.1 p.2 (rfL l)
theorem Js7:∀ l:List RKT,(rfL l).enc=l.flatMap fun p=>p.2.enc p.1
 | []=>Jsd
 | p :: l=>by rw [rfL,Jqv,Js7 l];rfl
theorem nameR_enc (nm:List UInt8) (t:RT):nameR nm (t.enc [])=t.enc nm:=by
 cases t with
 | mk k s n c kids=>rw [Jqs,Jqs];rfl
def sameL (ns:List (List UInt8)) (t:RT):List RKT:=ns.map fun nm=>(nm,t)
theorem Kgq (P:Tree->Bool):∀ l:List KT,tupS (List.replicate l.length P) l=allP P l
 | []=>rfl
 | q :: l=>by
  rw [List.length_cons,List.replicate_succ,tupS,Kgq P l];rfl
def unT (l:List Tree):List KT:=l.map fun t=>([],t)
def listT (l:List Tree):Tree:=.mk 5 [] false 0 (A1 (unT l))
def Jqe (t:Tree):List Tree:=t.kids.list.map (·.2)
theorem Khq (l:List Tree):Jqe (listT l)=l:=by
 unfold Jqe listT Tree.kids unT;rw [Hd,Ebs];exact List.map_id' l
theorem Kin (l:List Tree):(listT l).kind=5:=rfl
theorem Kio {t:Tree} (ok:okT t) (hk:t.kind=5):listT (Jqe t)=t:=by
 obtain ⟨k,s,g,e,kids⟩:=t;have hk:k=5:=hk;subst hk;obtain ⟨h1,h2,_⟩:=Lu.1 ok;simp [G3] at h1;obtain ⟨rfl,rfl,rfl⟩:=h1;unfold listT Jqe Tree.kids unT;rw [Ebs];have:kids.list.map ((fun t=>(([]:List UInt8),t)) ∘ fun p:KT=>p.2)=kids.list:=by
  conv=>rhs;rw [<- List.map_id kids.list]
  refine Ebh fun p hp=>?_
  have:=h2.1 rfl p hp;exact Prod.ext this.symm rfl
 rw [this,G1]
theorem Kgc {l:List Tree} (h:okK l):okT (listT l):=by
 unfold listT;rw [Lu,Ca,Hd,Jdo,Hd];have hn:∀ p∈unT l,p.1=[]:=fun p hp=>by obtain ⟨t,_,rfl⟩:=Eap.1 hp;rfl
 refine ⟨by simp [G3],⟨fun _=>hn,fun p hp=>?_,fun h=>by omega⟩,fun p hp=>?_⟩
 ·rw [hn p hp];rfl
 ·obtain ⟨t,ht,rfl⟩:=Eap.1 hp;exact h t ht
theorem Jyu {t:Tree} (ok:okT t):okK (Jqe t):=by
 intro x hx;obtain ⟨k,s,g,e,kids⟩:=t;obtain ⟨p,hp,rfl⟩:=Eap.1 hx;exact Jvb ok hp
theorem Kht {t u:Tree} {x:Step} (h:inT t x=.ok u):Jrc x t=.ok u:=by
 obtain ⟨k,s,g,e,kids⟩:=t;obtain ⟨b,nm,n⟩:=x;cases b with
 | false =>
  by_cases hk:k=6
  ·subst hk;rw [Tp rfl] at h;rw [Jw4];cases hf:Ch nm kids.list with
   | none=>simp only [hf] at h;cases h
   | some w=>simp only [hf] at h;cases h;rfl
  ·rw [Iw rfl hk] at h;cases h
 | true =>
  by_cases hk:k=5
  ·subst hk;rw [Tm rfl] at h;rw [Jza];cases hf:kids.list[n.toNat]? with
   | none=>simp only [hf] at h;cases h
   | some w=>simp only [hf] at h;cases h;rfl
  ·rw [Iz rfl hk] at h;cases h
def Jru (p:List Step):List Tree->Except Nat (List Tree)
 | []=>.ok []
 | t :: l=>match Jrd p t with
  | .error e=>.error e
  | .ok u=>match Jru p l with
   | .error e=>.error e
   | .ok ks=>.ok (u :: ks)
def Jte (grp:Bool) (s:List UInt8) (v:Tree):Except Nat Tree :=
 if v.kind=5 then (match Jru (Je s).1 (Jqe v) with
  | .error e=>.error e
  | .ok ks=>.ok (if grp=true then listT ((Jri ks).map fun g=>listT (Jqo (Jqe v) g)) else listT (Jqo (Jqe v) (Jra ks)))) else .error 5
theorem allP_kids {P:Tree->Bool} {l:List KT}:allP P l=true ↔ ∀ x∈l.map (·.2),P x=true:=by
 unfold allP;rw [Ebw,List.forall_mem_map]
theorem keysT_map (s:List UInt8) (l:List KT):J26 s l=(l.map (·.2)).map (keyT s):=by
 unfold J26;rw [Ebs];rfl
theorem Kjv {l:List Tree} {ks:List Tree} (hl:ks.length=l.length):∀ x,x∈Jqo l (Jra ks) ↔ x∈l:=by
 intro x;unfold Jqo;rw [Eap];constructor
 ·rintro ⟨i,hi,rfl⟩;have:=Jsz.1 hi;rw [Jrq (Eaa (show i<l.length by omega))];exact Ebq _
 ·intro hx;obtain ⟨i,hi,rfl⟩:=Ea6 hx;exact ⟨i,Jsz.2 omg,Jrq (Eaa hi)⟩
theorem sameT_iff {a b:Tree}:Kec a b=true ↔ a=b:=by
 unfold Kec;rw [decide_eq_true_eq];exact ⟨fun h=>(Jmz h).2,fun h=>by rw [h]⟩
instance (v:Tree):Decidable (v.kind=5/\∀ x∈Jqe v,x.kind=5):=inferInstance
def strT (s:List UInt8):Tree:=.mk 4 s false 0 .nil
def Jso (key x:Tree):Tree:=.mk 6 [] false 0 (.cons sKey key (.cons sVal x .nil))
def numV (n:Nat):Tree:=if n=0 then .mk 3 [] false 0 .nil else .mk 3 (Jqy (Lib.decDigits n)) false (((Lib.decDigits n).length - (Jqy (Lib.decDigits n)).length:Nat):Int) .nil
def Jr6 (l:List KT):List Tree:=l.map fun p=>Jso (strT p.1) p.2
def Jr3:Nat->List KT->List Tree
 | _,[]=>[]
 | i,p :: l=>Jso (numV i) p.2 :: Jr3 (i+1) l
def toE (v:Tree):Except Nat Tree:=if v.kind=6 then .ok (listT (Jr6 v.kids.list)) else if v.kind=5 then .ok (listT (Jr3 0 v.kids.list)) else .error 5
def entR:Tree->Option (List UInt8×Tree)
 | .mk k _ _ _ kids=>if k=6 then (match Ch sKey kids.list with
  | some (.mk k' s' _ _ _)=>if k'=4 then some (s',(Ch sVal kids.list).getD nilT) else none
  | none=>none) else none
def Jt2:List Tree->List KT->Option (List KT)
 | [],out=>some out
 | t :: l,out=>match entR t with
  | none=>none
  | some p=>Jt2 l (putL p.1 p.2 (A8 p.1 out))
def Jud (v:Tree):Except Nat Tree:=if v.kind=5 then (match Jt2 (Jqe v) [] with
 | some l=>.ok (nd 6 l)
 | none=>.error 5) else .error 5
end Go.LX
namespace Go.LX
open Go
def Jrm (op:Int):Prop:=16<=op/\op<=19
instance (op:Int):Decidable (Jrm op):=by unfold Jrm;infer_instance
def J14 (s:List UInt8):Prop:=(Je s).2.2=0
instance (s:List UInt8):Decidable (J14 s):=by unfold J14;infer_instance
instance (c:Node):Decidable (Js2 c):=by unfold Js2;infer_instance
def Jqq (op:Int) (s:List UInt8) (n:Int) (c:Node) (m:Int):Prop :=
 if op=0\/op=10\/op=11\/op=14 then s=[]/\n=0/\c=Juf/\m=0
 else if op=1 then n=0/\c=Juf/\m=0/\valid s=true
 else if op=2\/op=3 then s=[]/\c=Juf/\m=0/\0<=n/\n<=1000000
 else if op=4\/op=17\/op=18 then s=[]/\n=0/\c=Juf/\m=2
 else if op=5\/op=6\/op=7\/op=19 then s=[]/\n=0/\c=Juf/\m=1
 else if op=8\/op=9 then s=[]/\n=0/\c=Juf/\0<=m
 else if op=12\/op=13\/op=15 then n=0/\c=Juf/\m=0/\J14 s
 else if op=16 then m=0/\J14 s/\0<=n/\n<=5/\Js2 c
 else False
def Kft (op:Int) (p:RKT):Prop:=(Jrm p.2.kind ↔ Jrm op\/op=7)/\(op≠8->p.1=[])/\(op=8->valid p.1=true)
def Jsy (op:Int) (l:List RKT):Prop:=(∀ p∈l,Kft op p)/\(op=4->∀ p,l.head? = some p->p.2.kind≠4)/\(op=8->(l.map (·.1)).Nodup)
mutual
def okQ:RT->Prop
 | .mk op s n c kids=>Jqq op s n c kids.len/\Jsy op kids.list/\okQF kids
def okQF:RF->Prop
 | .nil=>True
 | .cons _ t r=>okQ t/\okQF r
end
theorem Jwl {k:Int} {s:List UInt8} {n:Int} {c:Node} {kids:RF}:okQ (.mk k s n c kids) ↔ Jqq k s n c kids.len/\Jsy k kids.list/\okQF kids:=by rw [okQ]
theorem Jvi {nm:List UInt8} {t:RT} {r:RF}:okQF (.cons nm t r) ↔ okQ t/\okQF r:=by rw [okQF]
theorem Jvm:okQF .nil:=by rw [okQF];trivial
theorem J8p:∀ {a b:RF},okQF (a.app b) ↔ okQF a/\okQF b
 | .nil,b=>by simp [RF.app,Jvm]
 | .cons nm t r,b=>by rw [RF.app,Jvi,Jvi,J8p (a:=r)];exact and_assoc.symm
theorem Kcy {nm:List UInt8} {k:Int} {s:List UInt8} {n:Int} {c:Node} {kids r:RF}:okQF (.cons nm (.mk k s n c kids) r) ↔ Jqq k s n c kids.len/\Jsy k kids.list/\okQF (kids.app r):=by
 rw [Jvi,Jwl,J8p];constructor
 ·rintro ⟨⟨h1,h2,h3⟩,h5⟩;exact ⟨h1,h2,h3,h5⟩
 ·rintro ⟨h1,h2,h3,h5⟩;exact ⟨⟨h1,h2,h3⟩,h5⟩
def J3b (v:List YRow):Prop:=∃ t,okQ t/\v=t.enc []
def J6t (v:List YRow):Prop:=∃ t,okQ t/\¬ Jrm t.kind/\v=t.enc []
open Classical in
noncomputable def Juz (v:List YRow):Bool:=decide (J3b v)
open Classical in
noncomputable def Jtz (v:List YRow):Bool:=decide (J6t v)
theorem Ju6 {v:List YRow}:Juz v=true ↔ J3b v:=by unfold Juz;exact @decide_eq_true_iff _ (Classical.propDecidable _)
theorem Jwr {v:List YRow}:Jtz v=true ↔ J6t v:=by unfold Jtz;exact @decide_eq_true_iff _ (Classical.propDecidable _)
theorem Jva {v:List YRow} (h:¬ J3b v):false=Juz v:=by
 cases hb:Juz v with
 | false=>rfl
 | true=>exact absurd (Ju6.1 hb) h
theorem Jxy {v:List YRow} (h:¬ J6t v):false=Jtz v:=by
 cases hb:Jtz v with
 | false=>rfl
 | true=>exact absurd (Jwr.1 hb) h
theorem J9l {t:RT}:J3b (t.enc []) ↔ okQ t:=by
 constructor
 ·rintro ⟨u,hu,h⟩;obtain ⟨_,rfl⟩:=Kep h;exact hu
 ·exact fun h=>⟨t,h,rfl⟩
theorem J3e {t:RT}:J6t (t.enc []) ↔ okQ t/\¬ Jrm t.kind:=by
 constructor
 ·rintro ⟨u,hu,hk,h⟩;obtain ⟨_,rfl⟩:=Kep h;exact ⟨hu,hk⟩
 ·exact fun h=>⟨t,h.1,h.2,rfl⟩
theorem J8s {v:List YRow} (h:J3b v):Jtm v 0 1=v.length:=by
 obtain ⟨t,_,rfl⟩:=h;have:=J8d.2 ⟨[],t,rfl⟩;unfold Jtm;rw [Ebi,this];simp
end Go.LX
namespace Go.LX
open Go Go.RowKit Go.Proofs
attribute [local irreducible] Al SWP Bi
def Jub (s:List UInt8):Nat->Nat->List (List UInt8)
 | 0,_=>[]
 | f+1,i=>if i<s.length then (s.drop i).take (max (rlen s i) 1) :: Jub s f (i+max (rlen s i) 1) else []
def Jrx (s:List UInt8):List (List UInt8):=Jub s (s.length+1) 0
def revE:Tree->Except Nat Tree
 | .mk k s _ _ kids=>if k=0 then .ok (listT []) else if k=5 then .ok (listT (kids.list.map (·.2)).reverse) else if k=4 then .ok (strT (Jrx s).reverse.flatten) else .error 5
def Jue (n:Nat):Tree->Except Nat Tree
 | .mk k s _ _ kids=>if k=0 then .ok nilT else if k=5 then .ok (listT ((kids.list.map (·.2)).drop n)) else if k=4 then .ok (strT ((Jrx s).drop n).flatten) else .error 5
def J01:Tree->Step->Tree
 | .mk k _ _ _ kids,x=>if x.part=true then listT ((kids.list.map (·.2)).eraseIdx x.n.toNat) else nd k (A8 x.name kids.list)
def delT:List Step->Tree->Except Nat Tree
 | [],_=>.ok nilT
 | x :: p,t=>if t.kind=0 then .ok t else match inT t x with
  | .error e=>if e=6 then .ok t else .error 5
  | .ok u=>if p=[] then .ok (J01 t x) else match delT p u with
   | .error e=>.error e
   | .ok w=>setT [x] t w
def mapE (f:Tree->Except Nat Tree):List Tree->Except Nat (List Tree)
 | []=>.ok []
 | t :: l=>match f t with
  | .error e=>if e=5 then .error 5 else mapE f l
  | .ok u=>match mapE f l with
   | .error e=>.error e
   | .ok us=>.ok (u :: us)
def mapN (f:Tree->Except Nat Tree):List KT->Except Nat (List KT)
 | []=>.ok []
 | q :: l=>match f q.2 with
  | .error e=>if e=5 then .error 5 else mapN f l
  | .ok u=>match mapN f l with
   | .error e=>.error e
   | .ok us=>.ok ((q.1,u) :: us)
def Jr7 (f:Tree->Except Nat Tree) (vals:Bool) (v:Tree):Except Nat Tree :=
 if v.kind=5\/v.kind=6 then (if vals=true/\v.kind=6 then (match mapN f v.kids.list with
  | .error e=>.error e
  | .ok l=>.ok (nd 6 l)) else match mapE f (Jqe v) with
  | .error e=>.error e
  | .ok l=>.ok (listT l)) else .error 5
def Jrn (obj:Bool) (v:Tree):List (Tree->Except Nat Tree)->Except Nat (List Tree)
 | []=>.ok []
 | f :: fs=>match f v with
  | .error e=>if e=5\/obj=true then .error e else Jrn obj v fs
  | .ok u=>match Jrn obj v fs with
   | .error e=>.error e
   | .ok us=>.ok (u :: us)
def Jrr (obj:Bool) (ns:List (List UInt8)) (fs:List (Tree->Except Nat Tree)) (v:Tree):Except Nat Tree:=match Jrn obj v fs with
 | .error e=>.error e
 | .ok l=>.ok (if obj=true then nd 6 (Lp (ns.zip l)) else listT l)
def J15 (op:Int) (s:List UInt8) (n:Int) (c:Node) (hs:List (Tree->Except Nat Bool)) (v:Tree):Except Nat Bool :=
 if op=16 then (match Jrd (Je s).1 v with
  | .error e=>.error e
  | .ok x=>.ok (J0l n (cmpT x (ndT c)))) else match hs with
  | []=>.ok false
  | h :: hs=>match h v with
   | .error e=>.error e
   | .ok a=>if op=19 then .ok (!a) else if a=decide (op=18) then .ok a else match hs with
    | []=>.ok false
    | h2 :: _=>h2 v
mutual
def Jrf:RT->Tree->Except Nat Bool
 | .mk op s n c kids=>fun v=>J15 op s n c (Jrb kids) v
def Jrb:RF->List (Tree->Except Nat Bool)
 | .nil=>[]
 | .cons _ t r=>Jrf t :: Jrb r
end
theorem Jwx {op:Int} {s:List UInt8} {n:Int} {c:Node} {kids:RF} {v:Tree}:Jrf (.mk op s n c kids) v=J15 op s n c (Jrb kids) v:=by rw [Jrf]
def Jrv (op:Int) (s:List UInt8) (n:Int) (ns:List (List UInt8)) (es:List (Tree->Except Nat Tree)) (hs:List (Tree->Except Nat Bool)) (v:Tree):Except Nat Tree :=
 if op=0 then .ok v
 else if op=1 then Jrc ⟨false,s,0⟩ v
 else if op=2 then Jrc ⟨true,[],n⟩ v
 else if op=3 then Jue n.toNat v
 else if op=5\/op=6 then Jr7 (es.headD fun _=>.error 5) (decide (op=6)) v
 else if op=8\/op=9 then Jrr (decide (op=8)) ns es v
 else if op=10 then toE v
 else if op=11 then Jud v
 else if op=12\/op=13 then Jte (decide (op=12)) s v
 else if op=14 then revE v
 else if op=15 then delT (Je s).1 v
 else if op=7 then (match (hs.headD fun _=>.error 5) v with
  | .error e=>.error e
  | .ok b=>if b=true then .ok v else .error 6)
 else match (es.headD fun _=>.error 5) v with
  | .error e=>.error e
  | .ok x=>(es.getD 1 fun _=>.error 5) x
mutual
def Jql:RT->Tree->Except Nat Tree
 | .mk op s n _ kids=>fun v=>Jrv op s n (kids.list.map (·.1)) (Jqp kids) (Jrb kids) v
def Jqp:RF->List (Tree->Except Nat Tree)
 | .nil=>[]
 | .cons _ t r=>Jql t :: Jqp r
end
theorem Jww {op:Int} {s:List UInt8} {n:Int} {c:Node} {kids:RF} {v:Tree}:Jql (.mk op s n c kids) v=Jrv op s n (kids.list.map (·.1)) (Jqp kids) (Jrb kids) v:=by rw [Jql]
def natL (S:List Nat):List (List PV):=S.map fun (i:Nat)=>[.int .i64 (i:Int)]
@[simp] theorem Jqx (S:List Nat):(natL S).length=S.length:=by simp [natL]
theorem Juk {S:List Nat} {k i:Nat} (h:S[k]? = some i):(natL S)[k]? = some [.int .i64 (i:Int)]:=by simp [natL,h]
theorem Jvf (a b:List Nat):natL (a ++ b)=natL a ++ natL b:=by simp [natL]
theorem Jrl (a b:List Tree):Jqd (a ++ b)=Jqd a ++ Jqd b:=by simp [Jqd]
@[simp] theorem Kf4 (l:List Tree):Jqo l []=[]:=rfl
@[simp] theorem J0h:Jqd []=[]:=rfl
@[simp] theorem J28:natL []=[]:=rfl
theorem J0c (ks:List Tree):Jrj ks []=([],[]):=rfl
theorem J3c (l:List Tree) (S:List Nat):(Jqo l S).length=S.length:=by simp [Jqo]
theorem Jwd (S:List Nat):∀ q∈natL S,q.length=1:=by
 intro q hq;obtain ⟨i,_,rfl⟩:=Eap.1 hq;rfl
theorem Jvr (l:List Tree):∀ q∈Jqd l,q.length=1:=by
 intro q hq;obtain ⟨i,_,rfl⟩:=Eap.1 hq;rfl
def Jro (o:List (List Nat)):List (List PV):=o.map fun g=>[.sl (natL g)]
@[simp] theorem groupL_nil:Jro []=[]:=rfl
@[simp] theorem Js8 (o:List (List Nat)):(Jro o).length=o.length:=by simp [Jro]
theorem J1n {o:List (List Nat)} {k:Nat} {g:List Nat} (h:o[k]? = some g):(Jro o)[k]? = some [.sl (natL g)]:=by simp [Jro,h]
theorem J4o {ks:List Tree} {l:List Nat} {st:List (List Nat)×List Nat} (h:GInv ks l st):st.1.length+st.2.length<=l.length:=by
 have h1:=congrArg List.length h.flat;rw [Eac] at h1;have h2:∀ {o:List (List Nat)},(∀ g∈o,g≠[])->o.length<=o.flatten.length:=by
  intro o
  induction o with
  | nil=>intro _;simp
  | cons g o ih =>
   intro h;have:=ih fun q hq=>h q (Eag _ hq)
   have hg:=h g Eaf;have:0<g.length:=Ecb.2 hg;rw [List.length_cons,List.flatten_cons,Eac];omega
 have:=h2 h.ne;omega
def Jqn (l:List Tree):Nat:=(l.map fun t=>(t.enc []).length).sum
theorem J3y:Jqn []=0:=rfl
theorem Jq8 (t:Tree) (l:List Tree):Jqn (t :: l)=(t.enc []).length+Jqn l:=by simp [Jqn]
theorem Jtk (a b:List Tree):Jqn (a ++ b)=Jqn a+Jqn b:=by simp [Jqn]
theorem J1d:∀ l:List Tree,(A1 (unT l)).enc.length=Jqn l
 | []=>by
  rw [show A1 (unT [])=.nil from rfl,Bl];rfl
 | t :: l=>by
  rw [show A1 (unT (t :: l))=.cons [] t (A1 (unT l)) from rfl,A0,Eac,J1d l,Jq8]
theorem Jsb (l:List Tree):((listT l).enc []).length=Jqn l+1:=by
 unfold listT;rw [A6,List.length_cons,J1d]
theorem J3z (l:List Tree):Jqd l=A4 (unT l):=by
 unfold Jqd A4 unT;rw [Ebs];rfl
theorem Jst (l:List KT):A4 l=Jqd (l.map (·.2)):=by
 unfold Jqd A4;rw [Ebs];rfl
theorem J1i (l:List Tree):unn (unT l)=unT l:=by
 unfold unn unT;rw [Ebs];rfl
theorem Jq1 (t:Tree):Jqn (Jqe t)+1=(t.enc []).length:=by
 obtain ⟨k,s,g,e,kids⟩:=t;rw [A6,List.length_cons];have:∀ f:Forest,Jqn (f.list.map (·.2))=f.enc.length:=by
  intro f
  induction f using Forest.rec (motive_1:=fun _=>True) with
  | mk=>trivial
  | nil=>rw [Bl];rfl
  | cons nm t r _ ih=>rw [A0,Eac,Forest.list,Eat,Jq8,ih,G7 t nm]
 show Jqn (kids.list.map (·.2))+1=_;rw [this]
theorem Jrh:∀ l:List Tree,l.length<=Jqn l
 | []=>Eai _
 | t :: l=>by
  have:=Jrh l;have:=Et t [];rw [Jq8,List.length_cons];omega
theorem Jr0:∀ {l:List Tree} {t:Tree},t∈l->(t.enc []).length<=Jqn l
 | u :: l,t,h=>by
  rw [Jq8];rcases Eaj.1 h with rfl | h
  ·omega
  ·have:=Jr0 h;omega
theorem Ka0 (ks:List Tree) (f:Nat->Nat) (i:Nat):∀ l:List Nat,((insI ks i l).map f).sum=f i+(l.map f).sum
 | []=>by simp [insI]
 | j :: l=>by
  rw [insI];split
  ·rw [Eat,List.sum_cons,Ka0 ks f i l,Eat,List.sum_cons];omega
  ·rw [Eat,List.sum_cons]
theorem J66 (ks:List Tree) (f:Nat->Nat):∀ n:Nat,((Ju9 ks n).map f).sum=((List.range n).map f).sum
 | 0=>rfl
 | n+1=>by rw [Ju9,Ka0,J66 ks f n,Ec6,Ebu,List.sum_append];simp;omega
theorem Jxo {l ks:List Tree} (h:ks.length=l.length):Jqn (Jqo l (Jra ks))=Jqn l:=by
 conv=>rhs;rw [<- J9s l]
 unfold Jqn Jqo;rw [Ebs,Ebs];unfold Jra;rw [J66,h]
theorem J4k:∀ gs:List (List Tree),Jqn (gs.map listT)=gs.length+Jqn gs.flatten
 | []=>rfl
 | g :: gs=>by
  rw [Eat,Jq8,Jsb,J4k gs,List.length_cons,List.flatten_cons,Jtk];omega
theorem row0 (v:Tree):∃ r:Nat->PV,(valL (v.enc []))[0]? = some [.int .i64 v.kind,r 0,r 1,r 2,r 3,r 4]:=by
 obtain ⟨k,s,g,e,kids⟩:=v;exact ⟨fun i=>([.int .i64 kids.len,.str [],.str s,.bool g,.int .i64 e]:List PV).getD i .snil,Cc [] k s g e kids⟩
theorem J6r:okT nilT:=by
 unfold nilT;rw [Lu];exact ⟨by decide,Sb 0,I6⟩
theorem J77 {x:Step} {t u:Tree} (ht:okT t) (h:Jrc x t=.ok u):okT u:=by
 have hk:∀ p∈t.kids.list,okT p.2:=by
  obtain ⟨k,s,g,e,kids⟩:=t;exact fun p hp=>Jvb ht hp
 unfold Jrc at h;split at h
 ·cases h;exact J6r
 ·split at h
  ·split at h
   ·cases h;cases hq:t.kids.list[x.n.toNat]? with
    | none=>exact J6r
    | some p=>exact hk p (Eae hq)
   ·cases h
  ·split at h
   ·cases h;cases hq:Ch x.name t.kids.list with
    | none=>exact J6r
    | some w =>
     obtain ⟨p,hp,rfl,_⟩:=H2 hq;exact hk p hp
   ·cases h
theorem Jxm:∀ {p:List Step} {t u:Tree},okT t->Jrd p t=.ok u->okT u
 | [],t,u,ht,h=>by rw [Jrd] at h;cases h;exact ht
 | x :: p,t,u,ht,h=>by
  rw [Jrd] at h;cases hs:Jrc x t with
  | ok w=>rw [hs] at h;exact Jxm (J77 ht hs) h
  | error e=>rw [hs] at h;cases h
theorem Jzo {p:List Step}:∀ {l ks:List Tree},okK l->Jru p l=.ok ks->okK ks/\ks.length=l.length/\∀ n,(∀ t∈l,(t.enc []).length<=n)->∀ t∈ks,(t.enc []).length<=n
 | [],ks,_,h=>by rw [Jru] at h;cases h;exact ⟨fun _ h=>(by cases h),rfl,fun _ _ _ h=>(by cases h)⟩
 | t :: l,ks,ho,h=>by
  rw [Jru] at h;cases hf:Jrd p t with
  | error e=>rw [hf] at h;cases h
  | ok u =>
   rw [hf] at h;cases hk:Jru p l with
   | error e=>rw [hk] at h;cases h
   | ok ks' =>
    rw [hk] at h;cases h;obtain ⟨a,b,c⟩:=Jzo (fun x hx=>ho x (Eag _ hx)) hk;refine ⟨fun x hx=>?_,by rw [List.length_cons,List.length_cons,b],fun n hn x hx=>?_⟩
    ·rcases Eaj.1 hx with rfl | hx
     ·exact Jxm (ho t Eaf) hf
     ·exact a x hx
    ·rcases Eaj.1 hx with rfl | hx
     ·exact Nat.le_trans (Jxh hf) (hn t Eaf)
     ·exact c n (fun y hy=>hn y (Eag _ hy)) x hx
def preK (us:List Tree):Except Nat (List Tree)->Except Nat (List Tree)
 | .ok ks=>.ok (us ++ ks)
 | .error e=>.error e
theorem J3v {p:List Step} {us l:List Tree} {t u:Tree} (h:Jrd p t=.ok u):preK us (Jru p (t :: l))=preK (us ++ [u]) (Jru p l):=by
 rw [Jru,h];cases Jru p l with
 | ok ks=>simp [preK]
 | error e=>rfl
theorem J7i {grp:Bool} {s:List UInt8} {v:Tree} (h:¬ v.kind=5):Jte grp s v=.error 5:=by unfold Jte;rw [if_neg h]
theorem Kcd {grp:Bool} {s:List UInt8} {v:Tree} {e:Nat} (h:v.kind=5) (hk:Jru (Je s).1 (Jqe v)=.error e):Jte grp s v=.error e:=by unfold Jte;rw [if_pos h,hk]
theorem Kg9 {s:List UInt8} {v:Tree} {ks:List Tree} (h:v.kind=5) (hk:Jru (Je s).1 (Jqe v)=.ok ks):Jte false s v=.ok (listT (Jqo (Jqe v) (Jra ks))):=by unfold Jte;rw [if_pos h,hk];rfl
theorem J91 (l ks:List Tree):((Jri ks).map fun g=>listT (Jqo l g))=((Jri ks).map (Jqo l)).map listT:=by rw [Ebs];rfl
theorem J94 {l ks:List Tree} (ok:okK ks):((Jri ks).map (Jqo l)).flatten=Jqo l (Jra ks):=by
 rw [Kc0];show Jqo l (Jrp (Jrj ks (Jra ks))).flatten=_;rw [Jv2 (Jt6 ok)]
theorem J6z:∀ {gs:List (List Nat)},(∀ g∈gs,g≠[])->gs.length<=gs.flatten.length
 | [],_=>Eai _
 | g :: gs,h=>by
  have:=J6z (gs:=gs) fun q hq=>h q (Eag _ hq)
  have:0<g.length:=Ecb.2 (h g Eaf);rw [List.length_cons,List.flatten_cons,Eac];omega
theorem Jsk:∀ {l:List Nat} {x:Nat},x∈l->x<=l.sum
 | y :: l,x,h=>by
  rw [List.sum_cons];rcases Eaj.1 h with rfl | h
  ·omega
  ·have:=Jsk h;omega
theorem Jw1 {l ks:List Tree} (ok:okK ks) (h:ks.length=l.length):Jqn ((Jri ks).map fun g=>listT (Jqo l g))<=2 * Jqn l:=by
 rw [J91,J4k,J94 ok,Jxo h,Ea9];have hn:=J23 (Jt6 ok);have h1:(Jrp (Jrj ks (Jra ks))).length<=(Jrp (Jrj ks (Jra ks))).flatten.length:=J6z hn;rw [Jv2 (Jt6 ok),Jsc,h] at h1;have:=Jrh l;show (Jrp (Jrj ks (Jra ks))).length+_<=_;omega
theorem Jy8 (s:List UInt8):((strT s).enc []).length=1:=by
 unfold strT;rw [A6,Bl];rfl
theorem Jry {α:Type} {l:List α} {k:Nat} {x:α} (h:l[k]? = some x):l.take (k+1)=l.take k ++ [x]:=by rw [Ea8,h,Option.toList_some]
theorem Jto {name:List UInt8}:∀ {l:List KT} {p:KT},p∈A8 name l->p∈l/\p.1≠name
 | [],p,h=>by cases h
 | q :: l,p,h=>by
  rw [A8] at h;split at h
  ·have:=Jto h;exact ⟨Eag _ this.1,this.2⟩
  ·rename_i hq;rcases Eaj.1 h with rfl | h
   ·exact ⟨Eaf,hq⟩
   ·have:=Jto h;exact ⟨Eag _ this.1,this.2⟩
@[simp] theorem strL_nil:strL []=[]:=rfl
theorem Kbh {k:Int} {s:List UInt8} {g:Bool} {e:Int} {kids:Forest} (h:okT (.mk k s g e kids)) (h0:k=0):Tree.mk k s g e kids=nilT:=by
 subst h0;obtain ⟨h1,_,_⟩:=Lu.1 h;unfold G3 at h1;rw [if_pos (.inl rfl)] at h1;obtain ⟨a,b,c,d⟩:=h1;subst b c d;rw [Jv4 a];rfl
theorem J1a:Det cx 65 [] [] (.p (.sl (valL (nilT.enc [])))) []:=by
 rw [J7x];(refine bgo Tryz.func65 ?_;simp only [go_sem,simprocAttr])
 skip
theorem Jz1 (s:List UInt8) (hs:s.length<=1000000):Det cx 45 [.p (.str s)] [] (.p (.sl (Bb (Je s).1))) []:=by
 (refine bgo Tryz.func45 ?_;simp only [go_sem,simprocAttr]);(repeat' (first|((refine Jqa (Jjx s hs) ?_);simp only [go_sem,simprocAttr])|fail))
@[go_sem] theorem sc_bool {b:Bool}:((PV.bool b).scalar=true)=True:=eq_true rfl
@[go_sem] theorem f_bb6 {parts:List (Nat×L)} {K:L->Prop}:Vf Tryz.prog 123 parts K=(Tryz.prog.cellsOf 4=1/\6=parts.length/\zok (Bu Tryz.prog 123) 6/\Bq (Jw8 0 parts) (kagg K)):=J62 f_u123
theorem Khn (n c:Int) (h0:0<=n) (h5:n<=5):Det cx 61 [.p (.int .i64 n),.p (.int .i64 c)] [] (.p (.bool (J0l n c))) []:=by
 have hn:n=0\/n=1\/n=2\/n=3\/n=4\/n=5:=by omega
 unfold J0l;rcases hn with rfl | rfl | rfl | rfl | rfl | rfl
 all_goals simp only [Int.reduceEq,if_true,if_false]
 ·(refine bgo Tryz.func61 ?_;simp only [go_sem,simprocAttr])
  all_goals (rw [Ea0];simp)
 ·(refine bgo Tryz.func61 ?_;simp only [go_sem,simprocAttr])
  all_goals (rw [Ea0];simp)
 ·(refine bgo Tryz.func61 ?_;simp only [go_sem,simprocAttr])
  all_goals (rw [Ea0];simp)
 ·(refine bgo Tryz.func61 ?_;simp only [go_sem,simprocAttr])
  all_goals (rw [Ea0];simp)
 ·(refine bgo Tryz.func61 ?_;simp only [go_sem,simprocAttr])
  all_goals (rw [Ea0];simp)
 ·(refine bgo Tryz.func61 ?_;simp only [go_sem,simprocAttr])
  all_goals (rw [Ea0];simp)
theorem J8w {x:Step} {t:Tree}:getT [x] t=inT t x:=by
 rw [getT];cases inT t x with
 | ok u=>rfl
 | error e=>rfl
theorem Kbd (x:Step) (v:Tree) (hx:Bc x) (ok:okT v) (hv:(v.enc []).length<=1500000000000):Det cx 36 [.p (.agg [.bool x.part,.str x.name,.int .i64 x.n]),.p (.sl (valL (v.enc [])))] [] (getR (Jrc x v)) []:=by
 obtain ⟨k,s,g,e,kids⟩:=v;have hG:=M1 [x] (.mk k s g e kids) sm (fun y hy=>by simp at hy;subst hy;exact hx) hv;rw [J8w] at hG;have hgv:=Cc [] k s g e kids;obtain ⟨b,nm,n⟩:=x;by_cases h0:k=0
 ·subst h0;rw [J3f,getR,<- Kbh ok rfl];generalize valL ((Tree.mk 0 s g e kids).enc [])=V at *
  cases b with
  | true =>
   (refine bgo Tryz.func36 ?_;simp only [go_sem,simprocAttr,hgv])
   skip
  | false =>
   (refine bgo Tryz.func36 ?_;simp only [go_sem,simprocAttr,hgv])
   skip
 ·have e0:=eq_false h0;cases b with
  | true =>
   by_cases h5:k=5
   ·subst h5;rw [Jza];rw [Tm rfl] at hG;simp only at hG;cases hq:kids.list[n.toNat]? with
    | none =>
     rw [hq,getR] at hG;simp only [Option.map_none,Option.getD_none,getR];generalize valL ((Tree.mk 5 s g e kids).enc [])=V at *
     (refine bgo Tryz.func36 ?_;simp only [go_sem,simprocAttr,hgv]);(repeat' (first|((first|refine Jqa hG ?_|refine Jqa J1a ?_);simp only [go_sem,simprocAttr])|fail))
     all_goals rfl
    | some p =>
     rw [hq,getR] at hG;simp only [Option.map_some,Option.getD_some,getR];generalize valL ((Tree.mk 5 s g e kids).enc [])=V at *
     (refine bgo Tryz.func36 ?_;simp only [go_sem,simprocAttr,hgv]);(repeat' (first|((refine Jqa hG ?_);simp only [go_sem,simprocAttr])|fail))
     all_goals rfl
   ·have e5:=eq_false h5;rw [J3l h0 h5,getR];generalize valL ((Tree.mk k s g e kids).enc [])=V at *
    (refine bgo Tryz.func36 ?_;simp only [go_sem,simprocAttr,hgv,e0,e5])
    all_goals rfl
  | false =>
   by_cases h6:k=6
   ·subst h6;rw [Jw4];rw [Tp rfl] at hG;simp only at hG;cases hq:Ch nm kids.list with
    | none =>
     rw [hq,getR] at hG;simp only [Option.getD_none,getR];generalize valL ((Tree.mk 6 s g e kids).enc [])=V at *
     (refine bgo Tryz.func36 ?_;simp only [go_sem,simprocAttr,hgv]);(repeat' (first|((first|refine Jqa hG ?_|refine Jqa J1a ?_);simp only [go_sem,simprocAttr])|fail))
     all_goals rfl
    | some p =>
     rw [hq,getR] at hG;simp only [Option.getD_some,getR];generalize valL ((Tree.mk 6 s g e kids).enc [])=V at *
     (refine bgo Tryz.func36 ?_;simp only [go_sem,simprocAttr,hgv]);(repeat' (first|((refine Jqa hG ?_);simp only [go_sem,simprocAttr])|fail))
     all_goals rfl
   ·have e6:=eq_false h6;rw [Jyn h0 h6,getR];generalize valL ((Tree.mk k s g e kids).enc [])=V at *
    (refine bgo Tryz.func36 ?_;simp only [go_sem,simprocAttr,hgv,e0,e6])
    all_goals rfl
theorem J40 (p:List Step) (v:Tree) (hp:p.length<=1000000) (hok:∀ x∈p,Bc x) (ok:okT v) (hv:(v.enc []).length<=1500000000000):Det cx 20 [.p (.sl (Bb p)),.p (.sl (valL (v.enc [])))] [] (getR (Jrd p v)) []:=by
 (refine bgo Tryz.func20 ?_;simp only [go_sem,simprocAttr,Aq]);refine SWP.loop (fun x:Nat×Tree=>⟨Ba 28 [(0,.p (.sl (Bb p))),(1,.p (.sl (valL (x.2.enc [])))),(10,.p (.sl (Bb p))),(11,.p (.int .i64 p.length)),(12,.p (.int .i64 x.1))],[]⟩) (fun x=>x.1<=p.length/\okT x.2/\(x.2.enc []).length<=1500000000000/\Jrd (p.drop x.1) x.2=Jrd p v) (fun x=>p.length - x.1) (0,v) Jqc ⟨Eav _,ok,hv,rfl⟩ ?_;rintro ⟨i,u⟩ ⟨h1,hu0,h2,h3⟩;simp only at h1 hu0 h2 h3;by_cases hi:i<p.length
 ·obtain ⟨x,hx⟩:∃ x,p[i]? = some x:=⟨_,Eaa hi⟩
  have hgx:=Dk hx;have hdx:p.drop i=x :: p.drop (i+1):=by rw [Eax hi];congr 1;rw [Eaa hi] at hx;exact Ea3 hx
  have hok':=hok x (Eae hx);rw [hdx,Jrd] at h3;have hin:=Kbd x u hok' hu0 h2;have c1:((i:Int)<(p.length:Int))=True:=eq_true omg;cases hu:Jrc x u with
  | error er =>
   rw [hu,getR] at hin;rw [hu] at h3;have:=Juj hu;subst this;rw [<- h3];simp only [getR];(refine lws ?_;simp only [go_sem,simprocAttr,c1,hgx]);(repeat' (first|((refine Jqa hin ?_);simp only [go_sem,simprocAttr])|fail))
   all_goals rfl
  | ok w =>
   rw [hu,getR] at hin;rw [hu] at h3;have hle:=Jvo hu;have hwo:=J77 hu0 hu;(refine lws ?_;simp only [go_sem,simprocAttr,c1,hgx,wi1 (i:=i) omg]);(repeat' (first|((refine Jqa hin ?_);simp only [go_sem,simprocAttr,wi1 (i:=i) omg])|fail))
   all_goals exact ⟨(i+1,w),⟨by simp only;omega,hwo,by simp only;omega,h3⟩,by simp only;omega,Jqc⟩
 ·have c1:((i:Int)<(p.length:Int))=False:=eq_false omg;rw [show p.drop i=[] from Ear omg,Jrd] at h3;rw [<- h3,getR];(refine lws ?_;simp only [go_sem,simprocAttr,c1])
  all_goals rfl
end Go.LX
namespace Go.LX
open Go Go.RowKit Go.Proofs
abbrev V1:={ v:Value // v.oneCell'=true }
instance:Inhabited V1:=⟨⟨.bool false,rfl⟩⟩
def v1:V1->Value:=Subtype.val
theorem Kak:OneCell v1:=fun x=>x.2
theorem Jy9 {β:Env} {w:World} {Im:Nat->Prop} {T:TypeId} {es:List (List PV)} {n:Nat} {args:List L} {tmps:Array Value} {v:Value} (hf:Fit β w Im ⟨args,[(1000,.row T 1 es)]⟩ tmps) (hv:LRep β w Im v (.own 1000 0 n)) (hn:es.length=n) :
  (n=0/\v=.slice none 0 0)\/∃ loc cap,∃ d:List V1,β 1000=some loc/\v=.slice (some ⟨loc.blk,0,none⟩) n cap/\cap=loc.tot/\d.length=n/\n<=cap/\cap<=maxLen/\Sort.Holds v1 w loc.blk 0 d.toArray /\
   ∀ (i:Nat) (x:V1) (e:List PV),d[i]? = some x->es[i]? = some e->∃ p,e=[p]/\p.scalar=true/\PRep w Im x.1 p:=by
 rcases hv with ⟨loc,cap,o,hβ,h1,h2,h3,rfl⟩ | ⟨hβ,_,h0,rfl⟩
 ·refine .inr ?_;have ho:o=0:=by rw [h3 (.inr rfl),Ecs]
  subst ho;rcases hf.regs 1000 _ Eaf with ⟨hb,_⟩ | ⟨loc',cur,hb,g1,g2,g3,g4,g5,g6,g7⟩
  ·rw [hβ] at hb;cases hb
  rw [hβ] at hb;cases hb;rw [Ebk] at h1;have hone:∀ i,i<n->∃ u:Value,∃ p,cur[i]? = some u/\es[i]? = some [p]/\p.scalar=true/\PRep w Im u p:=by
   intro i hi;obtain ⟨e,he⟩:∃ e,es[i]? = some e:=⟨_,Eaa omg⟩
   obtain ⟨q1,q2⟩:=g6 e (Eae he);obtain ⟨p,rfl⟩:∃ p,e=[p]:=by
    cases e with
    | nil=>simp at q1
    | cons p r=>cases r with
     | nil=>exact ⟨p,rfl⟩
     | cons=>simp at q1
   obtain ⟨u,q3,q4⟩:=g7 i _ 0 p he rfl;rw [Ecn,Nat.add_zero] at q3;exact ⟨u,p,q3,he,q2 p Eaf,q4⟩
  have hcl:n<=cur.length:=by rw [g3];omega
  have hall:∀ x∈cur.take n,x.oneCell'=true:=by
   intro x hx;obtain ⟨i,hi⟩:=Ebt hx;rw [Eao] at hi;split at hi
   ·rename_i hlt;obtain ⟨u,p,q1,_,q3,q4⟩:=hone i hlt;rw [q1] at hi;cases hi;exact q4.one q3
   ·cases hi
  let d:List V1:=(cur.take n).attach.map fun x=>⟨x.1,hall x.1 x.2⟩
  have hdl:d.length=n:=by simp [d];omega
  have hdv:d.map v1=cur.take n:=by simp [d,v1,Function.comp_def]
  have hdg:∀ (i:Nat) (x:V1),d[i]? = some x->cur[i]? = some x.1:=by
   intro i x hx;have:(d.map v1)[i]? = some x.1:=by rw [Eam,hx];rfl
   rw [hdv,Eao] at this;split at this
   ·exact this
   ·cases this
  refine ⟨loc,cap,d,hβ,rfl,h1,hdl,h2,by omega,fun j hj=>?_,fun i x e hx he=>?_⟩
  ·have hj':j<d.length:=by simpa using hj
   have hxj:d[j]? = some d[j]:=Eaa hj';have:=hdg j _ hxj;refine ⟨?_,?_⟩
   ·rw [Ebk];unfold World.cell?;simp only [g2];rw [show d.toArray[j]! = d[j] by simp [hj']];simpa [v1] using this
   ·unfold World.frozen?;simp only [g2];simp
  ·have hi:=(Eab.1 hx).1;obtain ⟨u,p,q1,q2,q3,q4⟩:=hone i omg;have:=hdg i x hx;rw [q1] at this;rw [q2] at he;cases this;cases he;exact ⟨p,rfl,q3,q4⟩
 ·exact .inl ⟨h0,rfl⟩
theorem Jy7 {α:Type} [Inhabited α] {enc:α->Value} {β:Env} {w w':World} {Im:Nat->Prop} {T:TypeId} {es es':List (List PV)} {args:List L} {tmps:Array Value} (hf:Fit β w Im ⟨args,[(1000,.row T 1 es)]⟩ tmps) {loc:Loc} (hβ:β 1000=some loc) {k:Nat} {os:Array Obj} {d:List α}
  (hw:w'=Sort.grow (Sort.putRow enc (Sort.ahead w k) loc.blk 0 d.toArray) os) (hd:d.length<=loc.tot) (hes:es'.length<=d.length)
  (hrep:∀ (i:Nat) (x:α) (e:List PV),d[i]? = some x->es'[i]? = some e->∃ p,e=[p]/\p.scalar=true/\PRep w Im (enc x) p):CallStep β w Im [(1000,.row T 1 es)] β w' Im [(1000,.row T 1 es')]:=by
 obtain ⟨hlt,him⟩:=hf.live 1000 _ loc Eaf hβ;have hheap:w'.heap=(w.heap.modify loc.blk (Sort.onCells (Sort.putCells enc 0 d.toArray))) ++ os:=by subst hw;rfl
 have hsz:w'.heap.size=w.heap.size+os.size:=by rw [hheap];simp
 have hoth:∀ j,j<w.heap.size->loc.blk≠j->w'.heap[j]? = w.heap[j]?:=by
  intro j hj hne;rw [hheap,Ec0 (by simpa using hj),Array.getElem?_modify,if_neg hne]
 have hK:Keeps w Im w' Im:=⟨fun _ h=>h,fun b hb=>hoth b (hf.im b hb) fun e=>him (e ▸ hb)⟩
 rcases hf.regs 1000 _ Eaf with ⟨hb,_⟩ | ⟨loc',cur,hb,g1,g2,g3,g4,g5,g6,g7⟩
 ·rw [hβ] at hb;cases hb
 rw [hβ] at hb;cases hb;have hown:w'.heap[loc.blk]? = some (.cells ⟨(Sort.putCells enc 0 d.toArray ⟨cur⟩).toList⟩ T (0,0)):=by
  rw [hheap,Ec0 (by simpa using hlt),Array.getElem?_modify,if_pos rfl,g2];rfl
 have hcl:(Sort.putCells enc 0 d.toArray ⟨cur⟩).toList.length=loc.tot * 1:=by
  rw [<- g3];simp [Sort.putCells]
 have hcg:∀ (i:Nat) (x:α),d[i]? = some x->(Sort.putCells enc 0 d.toArray ⟨cur⟩).toList[i]? = some (enc x):=by
  intro i x hx;have hi:=(Eab.1 hx).1;have hic:i<cur.length:=by rw [g3];omega
  rw [Ecd];unfold Sort.putCells;rw [Array.getElem?_mapIdx];have:(⟨cur⟩:Array Value)[i]? = some cur[i]:=by simp [hic]
  rw [this,Option.map_some,if_pos ⟨Eav _,by simpa using hi⟩];have h2:d[i]=x:=by
   have:=Eaa hi;rw [this] at hx;exact Ea3 hx
  simp [hi,h2]
 exact
  {
   os:=by subst hw;rfl
   tape:=by subst hw;rfl
   output:=by subst hw;rfl
   size:=by omega
   block:=fun j hj hno=>hoth j hj (hno 1000 _ loc Eaf hβ)
   imin:=fun _ h=>h
   imnew:=fun _ h=>.inl h
   env:=fun _ _ _=>rfl
   keys:=fun d r hd=>by
    simp only [Eaj,Ebc,or_false,Ec2] at hd;exact .inr ⟨_,by rw [hd.1];exact Eaf⟩
   regnew:=fun d r l hd hl=>by
    simp only [Eaj,Ebc,or_false,Ec2] at hd;rw [hd.1,hβ] at hl;cases hl;exact .inr ⟨1000,_,loc,Eaf,hβ,rfl⟩
   fit :=
    {
     size:=rfl
     tmps:=fun i l h=>by simp at h
     regs:=fun d' r hd'=>by
      simp only [Eaj,Ebc,or_false,Ec2] at hd';obtain ⟨rfl,rfl⟩:=hd';refine .inr ⟨loc,_,hβ,g1,hown,hcl,by omega,g5,fun e he=>?_,fun i e j p he hp=>?_⟩
      ·obtain ⟨i,hi⟩:=Ebt he;have hil:=(Eab.1 hi).1;obtain ⟨p,rfl,hp,_⟩:=hrep i _ e (Eaa omg) hi;exact ⟨rfl,fun q hq=>by simp only [Eaj,Ebc,or_false] at hq;subst hq;exact hp⟩
      ·have hil:=(Eab.1 he).1;have hdi:d[i]? = some (d[i]'omg):=Eaa omg;obtain ⟨q,rfl,_,hq⟩:=hrep i _ e hdi he;have hj:j=0/\p=q:=by
        cases j with
        | zero=>simp at hp;exact ⟨rfl,hp.symm⟩
        | succ j=>simp at hp
       obtain ⟨rfl,rfl⟩:=hj;exact ⟨_,by rw [Ecn,Nat.add_zero];exact hcg i _ hdi,hq.mono hK⟩
     nodup:=by simp
     live:=fun d' r l hd' hl=>by
      simp only [Eaj,Ebc,or_false,Ec2] at hd';rw [hd'.1,hβ] at hl;cases hl;exact ⟨by omega,him⟩
     apart:=fun d1 r1 d2 r2 l1 l2 h1 h2 hne=>by
      simp only [Eaj,Ebc,or_false,Ec2] at h1 h2;exact absurd (h1.1.trans h2.1.symm) hne
     im:=fun b hb=>Ebd (hf.im b hb) omg } }
theorem J0f {β:Env} {w:World} {Im:Nat->Prop} {args:List L} {rs:Regs} {tmps:Array Value} (hf:Fit β w Im ⟨args,rs⟩ tmps):CallStep β w Im rs β w Im rs :=
 Js9 hf ⟨rfl,rfl,rfl,Eai _,fun _ _=>rfl⟩
end Go.LX
namespace Go.Proofs
open Go.Shelf
def Tryz_laysE45v_renX:Go.Shelf.Ren:=⟨fun | 45=>70 | n=>n,fun | 22=>53 | 23=>25 | 3=>3 | 4=>4 | 0=>0 | n=>n,fun | n=>n⟩
theorem J27:Go.Proofs.SlLaysE.n45 Tryz.prog Tryz_laysE45v_renX:={
 mixed:=by kernel_rfl
 f45:=⟨Tryz.f70.name,by decide,Tryz.func70.trans (congrArg some (by kernel_rfl))⟩
 t0:=Tryz.underlying0
 a0:=Tryz.isAgg0
 z0:=Tryz.sizeOf0
 v0:=Tryz.zeroValue0
 t3:=Tryz.underlying3
 a3:=Tryz.isAgg3
 z3:=Tryz.sizeOf3
 v3:=Tryz.zeroValue3
 t4:=Tryz.underlying4
 a4:=Tryz.isAgg4
 z4:=Tryz.sizeOf4
 v4:=Tryz.zeroValue4
 t22:=Tryz.underlying53
 a22:=Tryz.isAgg53
 z22:=Tryz.sizeOf53
 v22:=Tryz.zeroValue53
 a23:=Tryz.isAgg25
 z23:=Tryz.sizeOf25 }
end Go.Proofs
