/- Membership: keys; the second law. -/
import Derived.Test.YtpaiiekgdgjjnaaGreatDoorLxZA
set_option linter.unusedSimpArgs false
set_option linter.unusedVariables false
set_option linter.unusedSectionVars false
set_option linter.unnecessarySimpa false
set_option maxRecDepth 100000
set_option maxHeartbeats 2000000
namespace Go.LX
open Go Go.RowKit Go.Proofs
attribute [local irreducible] Al SWP Bi
theorem Kb7 (v:List YRow) (u:List Node) (hv:TyFit v) (hu:ValFit u):Det cx 4 [.p (.sl (rowL v)),.p (.sl (valL u))] [] (.p (.bool true)) []:=by
 have hG:=Kau v u hv hu
 cases b1:Jyv v 60 with
 | false =>
  rw [b1,Bool.false_and] at hG
  (refine Jqa false [] Tryz.func4 ?_;refine Ae hm _ _ _ ?_;simp only [Tryz.ntmps4,Tryz.results4,go_sem,simprocAttr])
  (repeat' (first | ((first | (refine Det.use (hG) ?_)|(refine Det.use (Jr3) ?_));simp only [go_sem,simprocAttr]) | fail))
 | true =>
  cases b2:fewB u 60 with
  | false =>
   rw [b1,b2] at hG
   (refine Jqa false [] Tryz.func4 ?_;refine Ae hm _ _ _ ?_;simp only [Tryz.ntmps4,Tryz.results4,go_sem,simprocAttr])
   (repeat' (first | ((first | (refine Det.use (hG) ?_)|(refine Det.use (Jr3) ?_));simp only [go_sem,simprocAttr]) | fail))
  | true =>
   rw [b1,b2] at hG
   obtain ⟨t,ht,ht9,rfl,htl,hts⟩:=J66 b1
   obtain ⟨x,hx,rfl,hxl,hxf⟩:=Fw hu b2
   obtain ⟨k,s,m,c,kids⟩:=t
   have hsl:s.length≤1000000:=hts ⟨k,kids.len,[],s,m,c⟩ (by rw [Jqk];simp)
   have hg0:(rowL ((RT.mk k s m c kids).enc []))[0]? = some [.int .i64 k,.int .i64 kids.len,.str [],.str s,.int .i64 m,.int .i64 c.kind,.int .i64 c.many,.str c.name,.str c.s,.bool c.neg,.int .i64 c.e]:=by rw [Jqk];rfl
   have hK:=Kco s x hsl (by omega)
   have hR:=Kbb s x hsl (by omega)
   have hkl:(keyV s x).length≤1000000:=by
    unfold keyV
    cases hg:getT (Je s).1 x with
    | ok w=>have:=Qm hg;simp only;omega
    | error e=>simp
   have hS:=E2 (keyV s x) (keyV s x) hkl hkl
   rw [decide_eq_true rfl] at hS
   generalize rowL ((RT.mk k s m c kids).enc [])=rows at *
   by_cases k7:k=7
   ·subst k7
    (refine Jqa false [] Tryz.func4 ?_;refine Ae hm _ _ _ ?_;simp only [Tryz.ntmps4,Tryz.results4,go_sem,simprocAttr,hg0])
    (repeat' (first | ((first | (refine Jqd hm ?_)|(refine Det.use (hG) ?_)|(refine Det.useQ (Jr3) ?_)|(refine Det.useQ (hK) ?_)|(refine Det.useQ (hR) ?_)|(refine Det.useQ (hS) ?_));simp only [go_sem,simprocAttr,hg0]) | fail))
   ·by_cases k8:k=8
    ·subst k8
     (refine Jqa false [] Tryz.func4 ?_;refine Ae hm _ _ _ ?_;simp only [Tryz.ntmps4,Tryz.results4,go_sem,simprocAttr,hg0])
     (repeat' (first | ((first | (refine Jqd hm ?_)|(refine Det.use (hG) ?_)|(refine Det.useQ (Jr3) ?_)|(refine Det.useQ (hK) ?_)|(refine Det.useQ (hR) ?_)|(refine Det.useQ (hS) ?_));simp only [go_sem,simprocAttr,hg0]) | fail))
    ·have c7:=eq_false k7
     have c8:=eq_false k8
     (refine Jqa false [] Tryz.func4 ?_;refine Ae hm _ _ _ ?_;simp only [Tryz.ntmps4,Tryz.results4,go_sem,simprocAttr,hg0,c7,c8])
     (repeat' (first | ((first | (refine Det.use (hG) ?_)|(refine Det.use (Jr3) ?_));simp only [go_sem,simprocAttr,hg0,c7,c8]) | fail))
end Go.LX
set_option maxRecDepth 100000
set_option maxHeartbeats 2000000
namespace Go.LX
open Go Go.RowKit Go.Proofs
attribute [local irreducible] Al SWP Bi
def Kav (nm:List UInt8):List YRow→List YRow
 | []=>[]
 | r :: rs=>⟨r.kind,r.many,nm,r.s,r.n,r.c⟩ :: rs
def J9w (ns:List (List UInt8)) (ls:List (List YRow)) (i:Nat):List YRow:=if i<ns.length then Kav (ns.getD i []) (ls.getD i []) else ls.getD i []
def Jrt (ns:List (List UInt8)) (ls:List (List YRow)):Nat→List YRow
 | 0=>[]
 | i+1=>Jrt ns ls i ++ J9w ns ls i
def J5f (y:YRow) (ns:List (List UInt8)) (ls:List (List YRow)):List YRow:=⟨y.kind,ls.length,y.name,y.s,y.n,y.c⟩ :: Jrt ns ls ls.length
def Jvi (ls:List (List YRow)):List (List PV):=ls.map fun v=>[.sl (rowL v)]
def J9g (ns:List (List UInt8)):List (List PV):=ns.map fun s=>[.str s]
@[simp] theorem Jvs (ls:List (List YRow)):(Jvi ls).length=ls.length:=by simp [Jvi]
@[simp] theorem Kar (ns:List (List UInt8)):(J9g ns).length=ns.length:=by simp [J9g]
theorem J4d {ls:List (List YRow)} {i:Nat} {v:List YRow} (h:ls[i]? = some v):(Jvi ls)[i]? = some [.sl (rowL v)]:=by simp [Jvi,h]
theorem Kb3 {ns:List (List UInt8)} {i:Nat} {v:List UInt8} (h:ns[i]? = some v):(J9g ns)[i]? = some [.str v]:=by simp [J9g,h]
theorem Kcd (nm:List UInt8) (l:List YRow):(Kav nm l).length=l.length:=by cases l <;> rfl
theorem Kb9 (y:YRow) (ls:List (List YRow)) (hl:ls.length≤10000) (hs:∀ i,i≤ls.length→(Jrt [] ls i).length≤900000) (he:∀ v∈ls,v.length≤900000):Det cx 22 [.p (.agg [.int .i64 y.kind,.int .i64 y.many,.str y.name,.str y.s,.int .i64 y.n,.int .i64 y.c.kind,.int .i64 y.c.many,.str y.c.name,.str y.c.s,.bool y.c.neg,.int .i64 y.c.e]),.p .snil,.p (.sl (Jvi ls))] [] (.p (.sl (rowL (J5f y [] ls)))) []:=by
 generalize hhd:(⟨y.kind,ls.length,y.name,y.s,y.n,y.c⟩:YRow)=hd
 have hst:rowL (hd :: Jrt [] ls 0)=[[.int .i64 y.kind,.int .i64 ls.length,.str y.name,.str y.s,.int .i64 y.n,.int .i64 y.c.kind,.int .i64 y.c.many,.str y.c.name,.str y.c.s,.bool y.c.neg,.int .i64 y.c.e]]:=by rw [← hhd];rfl
 have hst0:(Jrt [] ls 0).length=0:=rfl
 have hmd:J5f y [] ls=hd :: Jrt [] ls ls.length:=by rw [← hhd];rfl
 rw [hmd]
 (refine Jqa false [] Tryz.func22 ?_;refine Ae hm _ _ _ ?_;simp only [Tryz.ntmps22,Tryz.results22,go_sem,simprocAttr,Jvs])
 skip
 refine SWP.loop (fun i:Nat=>⟨Ba 56 [(1,.p .snil),(2,.p (.sl (Jvi ls))),(7,.own 15 0 ((Jrt [] ls i).length+1)),(8,.p (.int .i64 i))],[(15,.row 31 11 (rowL (hd :: Jrt [] ls i)))]⟩) (fun i=>i≤ls.length) (fun i=>ls.length - i) 0 (by rw [hst,hst0];exact Jqb) (Nat.zero_le _) ?_
 rintro i hi
 have hln:=hs i hi
 have hpl:(rowL (hd :: Jrt [] ls i)).length=(Jrt [] ls i).length+1:=by rw [Jqe];rfl
 have hle0:((Jrt [] ls i).length+1≤(Jrt [] ls i).length+1)=True:=eq_true (Nat.le_refl _)
 by_cases hlt:i<ls.length
 ·have c1:((i:Int)<(ls.length:Int))=True:=eq_true (by omega)
  obtain ⟨v,hq⟩:∃ v,ls[i]? = some v:=⟨_,List.getElem?_eq_getElem hlt⟩
  have hg:=J4d hq
  have hv:=he v (List.mem_of_getElem? hq)
  have w1:IntKind.i64.wrap ((i:Int)+1)=((i+1:Nat):Int):=by rw [Aa (by omega) (by omega)];omega
  have c0:((i:Int)<0)=False:=eq_false (by omega)
  have hstep:Jrt [] ls (i+1)=Jrt [] ls i ++ v:=by
   rw [Jrt,J9w,if_neg (by simp)]
   simp [List.getD_eq_getElem?_getD,hq]
  have e1:rowL (hd :: (Jrt [] ls i ++ v))=rowL (hd :: Jrt [] ls i) ++ rowL v:=by rw [← J3b];rfl
  have e2:(Jrt [] ls i ++ v).length+1=(Jrt [] ls i).length+1+v.length:=by rw [List.length_append];omega
  (refine Ae hm _ _ _ ?_;simp only [go_sem,simprocAttr,Jvs,c1,c0,hg,hpl,w1,Jqe])
  (repeat' (first | (refine And.intro (by first | (simp;done)|(simp;omega)|(intro q hq;exact Jtz _ q hq)) ?_)|(refine Jsx ?_) | fail))
  refine ⟨i+1,by omega,by omega,?_⟩
  refine (B1 [(29,15)] _ (by simp)).trans ?_
  simp only [go_sem,simprocAttr]
  rw [hstep,e1,e2]
  exact Jqb
 ·have hil:i=ls.length:=by omega
  subst hil
  have c1:((ls.length:Int)<(ls.length:Int))=False:=eq_false (by omega)
  have htk:(rowL (hd :: Jrt [] ls ls.length)).take ((Jrt [] ls ls.length).length+1)=rowL (hd :: Jrt [] ls ls.length):=List.take_of_length_le (by rw [hpl];exact Nat.le_refl _)
  (refine Ae hm _ _ _ ?_;simp only [go_sem,simprocAttr,Jvs,c1,hpl,hle0,htk])
  skip
theorem Kb8 (y:YRow) (ns:List (List UInt8)) (ls:List (List YRow)) (hl:ls.length≤10000) (hs:∀ i,i≤ls.length→(Jrt ns ls i).length≤900000) (he:∀ v∈ls,v.length≤900000):Det cx 22 [.p (.agg [.int .i64 y.kind,.int .i64 y.many,.str y.name,.str y.s,.int .i64 y.n,.int .i64 y.c.kind,.int .i64 y.c.many,.str y.c.name,.str y.c.s,.bool y.c.neg,.int .i64 y.c.e]),.p (.sl (J9g ns)),.p (.sl (Jvi ls))] [] (.p (.sl (rowL (J5f y ns ls)))) []:=by
 generalize hhd:(⟨y.kind,ls.length,y.name,y.s,y.n,y.c⟩:YRow)=hd
 have hst:rowL (hd :: Jrt ns ls 0)=[[.int .i64 y.kind,.int .i64 ls.length,.str y.name,.str y.s,.int .i64 y.n,.int .i64 y.c.kind,.int .i64 y.c.many,.str y.c.name,.str y.c.s,.bool y.c.neg,.int .i64 y.c.e]]:=by rw [← hhd];rfl
 have hst0:(Jrt ns ls 0).length=0:=rfl
 have hmd:J5f y ns ls=hd :: Jrt ns ls ls.length:=by rw [← hhd];rfl
 rw [hmd]
 (refine Jqa false [] Tryz.func22 ?_;refine Ae hm _ _ _ ?_;simp only [Tryz.ntmps22,Tryz.results22,go_sem,simprocAttr,Jvs,Kar])
 skip
 refine SWP.loop (fun i:Nat=>⟨Ba 56 [(1,.p (.sl (J9g ns))),(2,.p (.sl (Jvi ls))),(7,.own 15 0 ((Jrt ns ls i).length+1)),(8,.p (.int .i64 i))],[(15,.row 31 11 (rowL (hd :: Jrt ns ls i)))]⟩) (fun i=>i≤ls.length) (fun i=>ls.length - i) 0 (by rw [hst,hst0];exact Jqb) (Nat.zero_le _) ?_
 rintro i hi
 have hln:=hs i hi
 have hpl:(rowL (hd :: Jrt ns ls i)).length=(Jrt ns ls i).length+1:=by rw [Jqe];rfl
 have hle0:((Jrt ns ls i).length+1≤(Jrt ns ls i).length+1)=True:=eq_true (Nat.le_refl _)
 by_cases hlt:i<ls.length
 ·have c1:((i:Int)<(ls.length:Int))=True:=eq_true (by omega)
  obtain ⟨v,hq⟩:∃ v,ls[i]? = some v:=⟨_,List.getElem?_eq_getElem hlt⟩
  have hg:=J4d hq
  have hv:=he v (List.mem_of_getElem? hq)
  have w1:IntKind.i64.wrap ((i:Int)+1)=((i+1:Nat):Int):=by rw [Aa (by omega) (by omega)];omega
  have e1:rowL (hd :: (Jrt ns ls i ++ v))=rowL (hd :: Jrt ns ls i) ++ rowL v:=by rw [← J3b];rfl
  have e2:(Jrt ns ls i ++ v).length+1=(Jrt ns ls i).length+1+v.length:=by rw [List.length_append];omega
  by_cases hin:i<ns.length
  ·have c0:((i:Int)<(ns.length:Int))=True:=eq_true (by omega)
   obtain ⟨nm,hnm⟩:∃ nm,ns[i]? = some nm:=⟨_,List.getElem?_eq_getElem hin⟩
   have hgn:=Kb3 hnm
   have hstep:Jrt ns ls (i+1)=Jrt ns ls i ++ Kav nm v:=by
    rw [Jrt,J9w,if_pos hin]
    simp [List.getD_eq_getElem?_getD,hq,hnm]
   cases v with
   | nil =>
    rw [show Kav nm []=[] from rfl] at hstep
    (refine Ae hm _ _ _ ?_;simp only [go_sem,simprocAttr,Jvs,Kar,c1,c0,hg,hpl,w1,Jqe])
    (repeat' (first | (refine And.intro (by first | (simp;done)|(simp;omega)|(intro q hq;exact Jtz _ q hq)) ?_)|(refine Jsx ?_) | fail))
    refine ⟨i+1,by omega,by omega,?_⟩
    refine (B1 [(29,15)] _ (by simp)).trans ?_
    simp only [go_sem,simprocAttr]
    rw [hstep,e1,e2]
    exact Jqb
   | cons r rs =>
    have hat:(rowL (hd :: Jrt ns ls i) ++ rowL (r :: rs))[(Jrt ns ls i).length+1]? = some [.int .i64 r.kind,.int .i64 r.many,.str r.name,.str r.s,.int .i64 r.n,.int .i64 r.c.kind,.int .i64 r.c.many,.str r.c.name,.str r.c.s,.bool r.c.neg,.int .i64 r.c.e]:=by
     rw [List.getElem?_append_right (by rw [hpl];exact Nat.le_refl _),hpl,Nat.sub_self];rfl
    have hset:(rowL (hd :: Jrt ns ls i) ++ rowL (r :: rs)).set ((Jrt ns ls i).length+1) [.int .i64 r.kind,.int .i64 r.many,.str nm,.str r.s,.int .i64 r.n,.int .i64 r.c.kind,.int .i64 r.c.many,.str r.c.name,.str r.c.s,.bool r.c.neg,.int .i64 r.c.e]=rowL (hd :: (Jrt ns ls i ++ Kav nm (r :: rs))):=by
     rw [List.set_append_right _ _ (by rw [hpl];exact Nat.le_refl _),hpl,Nat.sub_self,show hd :: (Jrt ns ls i ++ Kav nm (r :: rs))=(hd :: Jrt ns ls i) ++ Kav nm (r :: rs) from rfl,J3b]
     rfl
    have hv':rs.length+1≤900000:=hv
    have c2:((0:Int)<((rs.length+1:Nat):Int))=True:=eq_true (by omega)
    have c3:(Jrt ns ls i).length+1<(Jrt ns ls i).length+1+(rs.length+1):=by omega
    (refine Ae hm _ _ _ ?_;simp only [go_sem,simprocAttr,Jvs,Kar,c1,c0,c2,hg,hgn,hpl,w1,hat,hset,Jqe])
    (repeat' (first | (refine And.intro (by first | (simp;done)|(simp;omega)|(intro q hq;exact Jtz _ q hq)) ?_)|(refine Jsx ?_) | fail))
    have e3:(Jrt ns ls i ++ Kav nm (r :: rs)).length+1=(Jrt ns ls i).length+1+(rs.length+1):=by rw [List.length_append,Kcd];simp only [List.length_cons];omega
    refine ⟨i+1,by omega,by omega,?_⟩
    refine (B1 [(29,15)] _ (by simp)).trans ?_
    simp only [go_sem,simprocAttr]
    rw [hstep,e3]
    exact Jqb
  ·have c0:((i:Int)<(ns.length:Int))=False:=eq_false (by omega)
   have hstep:Jrt ns ls (i+1)=Jrt ns ls i ++ v:=by
    rw [Jrt,J9w,if_neg hin]
    simp [List.getD_eq_getElem?_getD,hq]
   (refine Ae hm _ _ _ ?_;simp only [go_sem,simprocAttr,Jvs,Kar,c1,c0,hg,hpl,w1,Jqe])
   (repeat' (first | (refine And.intro (by first | (simp;done)|(simp;omega)|(intro q hq;exact Jtz _ q hq)) ?_)|(refine Jsx ?_) | fail))
   refine ⟨i+1,by omega,by omega,?_⟩
   refine (B1 [(29,15)] _ (by simp)).trans ?_
   simp only [go_sem,simprocAttr]
   rw [hstep,e1,e2]
   exact Jqb
 ·have hil:i=ls.length:=by omega
  subst hil
  have c1:((ls.length:Int)<(ls.length:Int))=False:=eq_false (by omega)
  have htk:(rowL (hd :: Jrt ns ls ls.length)).take ((Jrt ns ls ls.length).length+1)=rowL (hd :: Jrt ns ls ls.length):=List.take_of_length_le (by rw [hpl];exact Nat.le_refl _)
  (refine Ae hm _ _ _ ?_;simp only [go_sem,simprocAttr,Jvs,c1,hpl,hle0,htk])
  skip
end Go.LX
set_option maxRecDepth 100000
set_option maxHeartbeats 2000000
namespace Go.LX
open Go Go.RowKit Go.Proofs
attribute [local irreducible] Al SWP Bi
def rfL:List RKT→RF
 | []=>.nil
 | p :: l=>.cons p.1 p.2 (rfL l)
theorem Jzk:∀ l:List RKT,(rfL l).list=l
 | []=>rfl
 | p :: l=>by rw [rfL,RF.list,Jzk l]
theorem J1g:∀ l:List RKT,(rfL l).len=l.length
 | []=>rfl
 | p :: l=>by rw [rfL,Jrq,J1g l];rfl
theorem Juq:∀ l:List RKT,(rfL l).enc=l.flatMap fun p=>p.2.enc p.1
 | []=>Jqt
 | p :: l=>by rw [rfL,Jqf,Juq l];rfl
theorem Kba:∀ l:List RKT,inL (rfL l)=l.map fun p=>inTy p.2
 | []=>Jxz
 | p :: l=>by rw [rfL,inL,Kba l];rfl
theorem Kcf (nm:List UInt8) (t:RT):Kav nm (t.enc [])=t.enc nm:=by
 cases t with
 | mk k s n c kids=>rw [Jqk,Jqk];rfl
theorem Kbk (l:List RKT):∀ i,i≤l.length→Jrt (l.map (·.1)) (l.map fun p=>p.2.enc []) i=(rfL (l.take i)).enc
 | 0,_=>by rw [List.take_zero];exact Jqt.symm
 | i+1,h=>by
  obtain ⟨p,hp⟩:∃ p,l[i]? = some p:=⟨_,List.getElem?_eq_getElem (by omega)⟩
  rw [Jrt,Kbk l i (by omega),Juq,Juq,List.take_add_one,hp,List.flatMap_append,J9w,if_pos (by simp;omega)]
  simp [List.getD_eq_getElem?_getD,hp,Kcf]
theorem Jyc {l:List RKT} (hn:∀ p∈l,p.1=[]):∀ i,i≤l.length→Jrt [] (l.map fun p=>p.2.enc []) i=(rfL (l.take i)).enc
 | 0,_=>by rw [List.take_zero];exact Jqt.symm
 | i+1,h=>by
  obtain ⟨p,hp⟩:∃ p,l[i]? = some p:=⟨_,List.getElem?_eq_getElem (by omega)⟩
  rw [Jrt,Jyc hn i (by omega),Juq,Juq,List.take_add_one,hp,List.flatMap_append,J9w,if_neg (by simp)]
  simp [List.getD_eq_getElem?_getD,hp,hn p (List.mem_of_getElem? hp)]
theorem Kc7 (k m:Int) (s:List UInt8) (n:Int) (c:Node) (l:List RKT):J5f ⟨k,m,[],s,n,c⟩ (l.map (·.1)) (l.map fun p=>p.2.enc [])=(RT.mk k s n c (rfL l)).enc []:=by
 rw [Jqk,J1g,J5f,List.length_map,Kbk l l.length (Nat.le_refl _),List.take_length]
theorem J9y (k m:Int) (s:List UInt8) (n:Int) (c:Node) {l:List RKT} (hn:∀ p∈l,p.1=[]):J5f ⟨k,m,[],s,n,c⟩ [] (l.map fun p=>p.2.enc [])=(RT.mk k s n c (rfL l)).enc []:=by
 rw [Jqk,J1g,J5f,List.length_map,Jyc hn l.length (Nat.le_refl _),List.take_length]
theorem J27 (l:List RKT) (i:Nat):(rfL (l.take i)).enc.length≤(rfL l).enc.length:=by
 rw [Juq,Juq]
 conv=>rhs;rw [← List.take_append_drop i l,List.flatMap_append,List.length_append]
 omega
def Jsh (ns:List (List UInt8)) (t:RT):List RKT:=ns.map fun nm=>(nm,t)
theorem Jww (ns:List (List UInt8)) (t:RT):(rfL (Jsh ns t)).enc.length=ns.length * (t.enc []).length:=by
 induction ns with
 | nil=>simp [Jsh,rfL,Jqt]
 | cons a ns ih =>
  rw [Jsh,List.map_cons,rfL,Jqf,List.length_append,J4y t a]
  unfold Jsh at ih
  rw [ih,List.length_cons,Nat.succ_mul];omega
theorem Kab {ns:List (List UInt8)} {t:RT} (h:okR t):okRF (rfL (Jsh ns t)):=by
 rw [Jtq,Jzk]
 intro p hp
 obtain ⟨nm,_,rfl⟩:=List.mem_map.1 hp
 exact h
theorem J6o {ns:List (List UInt8)} {t:RT} (h:SFit t) (k:Int) (n:Int):SFit (.mk k [] n Jrc (rfL (Jsh ns t))):=by
 intro r hr
 rw [Jqk,Juq] at hr
 rcases List.mem_cons.1 hr with rfl | hr
 ·simp
 ·obtain ⟨p,hp,hr⟩:=List.mem_flatMap.1 hr
  obtain ⟨nm,_,rfl⟩:=List.mem_map.1 hp
  simp only at hr
  obtain ⟨k,s,n,c,kids⟩:=t
  have h2:=h
  unfold SFit at h2
  rw [Jqk] at hr h2
  rcases List.mem_cons.1 hr with rfl | hr
  ·exact h2 ⟨k,kids.len,[],s,n,c⟩ List.mem_cons_self
  ·exact h2 _ (List.mem_cons_of_mem _ hr)
theorem Jz5 {t:RT} (ht:okR t) (h9:t.kind≠9) (k:Int) (m:Nat) (hk:(k=4∨((k=3∨k=5∨k=6)∧m=1))):okR (.mk k [] 0 Jrc (rfL (Jsh (List.replicate m []) t))):=by
 rw [Jtm,Jzk,J1g]
 refine ⟨?_,⟨fun p hp=>?_,fun h=>by omega⟩,fun h=>by omega,Kab ht⟩
 ·unfold Jq6
  rcases hk with rfl | ⟨rfl | rfl | rfl,rfl⟩ <;> simp [Jsh]
 ·obtain ⟨nm,hnm,rfl⟩:=List.mem_map.1 hp
  have:=List.eq_of_mem_replicate hnm
  subst this
  exact ⟨⟨fun h=>absurd h h9,fun h=>by omega⟩,fun _=>rfl,fun h=>by omega⟩
theorem Kby {t:RT} (ht:okR t) (h9:t.kind≠9) {l:List KT} (hr:Rise l) (hv:∀ p∈l,valid p.1=true):okR (.mk 2 [] 0 Jrc (rfL (Jsh (l.map (·.1)) t))):=by
 rw [Jtm,Jzk,J1g]
 refine ⟨?_,⟨fun p hp=>?_,fun _=>?_⟩,fun h=>by omega,Kab ht⟩
 ·unfold Jq6;simp
 ·obtain ⟨nm,hnm,rfl⟩:=List.mem_map.1 hp
  obtain ⟨q,hq,rfl⟩:=List.mem_map.1 hnm
  exact ⟨⟨fun h=>absurd h h9,fun h=>by omega⟩,fun h=>absurd rfl h,fun _=>hv q hq⟩
 ·unfold RRise Jsh
  rw [List.map_map]
  exact List.pairwise_map.2 (hr.imp fun h=>h)
theorem Kc3 {t:RT} {x:Tree}:inTy (.mk 5 [] 0 Jrc (rfL (Jsh [[]] t))) x=(decide (x.kind=5) && allP (inTy t) x.kids.list):=by
 rw [Juw,inK,Kba];rfl
theorem Kcw {t:RT} {x:Tree}:inTy (.mk 3 [] 0 Jrc (rfL (Jsh [[]] t))) x=(decide (x.kind=6) && allP (inTy t) x.kids.list):=by
 rw [Juw,inK,Kba];rfl
theorem Kcb (P:Tree→Bool):∀ l:List KT,tupS (List.replicate l.length P) l=allP P l
 | []=>rfl
 | q :: l=>by
  rw [List.length_cons,List.replicate_succ,tupS,Kcb P l];rfl
theorem in_tup {t:RT} {x:Tree}:inTy (.mk 4 [] 0 Jrc (rfL (Jsh (List.replicate x.kids.list.length []) t))) x=(decide (x.kind=5) && allP (inTy t) x.kids.list):=by
 rw [Juw,inK,Kba]
 simp [Jsh,List.map_replicate,Kcb]
theorem Kcc (P:Tree→Bool) (kl:List KT):∀ l:List KT,(∀ p∈l,Ch p.1 kl=some p.2)→∀ t:RT,objS kl (Jsh (l.map (·.1)) t) (List.replicate l.length P)=allP P l
 | [],_,t=>rfl
 | q :: l,h,t=>by
  have ih:=Kcc P kl l (fun p hp=>h p (List.mem_cons_of_mem _ hp)) t
  unfold Jsh at ih ⊢
  rw [List.map_cons,List.map_cons,List.length_cons,List.replicate_succ,objS,ih,Jv4,h q List.mem_cons_self];rfl
theorem Kbd:∀ {l:List KT},Rise l→∀ p∈l,Ch p.1 l=some p.2
 | [],_,p,hp=>by cases hp
 | q :: l,h,p,hp=>by
  obtain ⟨h1,h2⟩:=List.pairwise_cons.1 h
  rw [Ch]
  rcases List.mem_cons.1 hp with rfl | hp
  ·rw [if_pos rfl]
  ·rw [if_neg (fun e=>by have:=h1 p hp;rw [e,E0] at this;cases this)]
   exact Kbd h2 p hp
theorem in_obj {t:RT} {x:Tree} (hr:Rise x.kids.list):inTy (.mk 2 [] 0 Jrc (rfL (Jsh (x.kids.list.map (·.1)) t))) x=(decide (x.kind=6) && allP (inTy t) x.kids.list):=by
 rw [Juw,inK,Kba,Jzk]
 have h1:=Kcc (inTy t) x.kids.list x.kids.list (Kbd hr) t
 have h2:(Jsh (x.kids.list.map (·.1)) t).map (fun p=>inTy p.2)=List.replicate x.kids.list.length (inTy t):=by
  unfold Jsh
  rw [List.map_map,List.map_map]
  exact List.eq_replicate_iff.2 ⟨by simp,fun b hb=>by obtain ⟨_,_,rfl⟩:=List.mem_map.1 hb;rfl⟩
 rw [h2,h1]
 have h3:=Forest.list_len x.kids
 simp [Jsh,h3]
end Go.LX
set_option maxRecDepth 100000
set_option maxHeartbeats 2000000
namespace Go.LX
open Go Go.RowKit Go.Proofs
attribute [local irreducible] Al SWP Bi
theorem J6q (k:Int) (t:RT) (ht:(t.enc []).length≤1000):Det cx 22 [.p (.agg [.int .i64 k,.int .i64 0,.str [],.str [],.int .i64 0,.int .i64 0,.int .i64 0,.str [],.str [],.bool false,.int .i64 0]),.p .snil,.p (.sl [[.sl (rowL (t.enc []))]])] [] (.p (.sl (rowL ((RT.mk k [] 0 Jrc (rfL (Jsh [[]] t))).enc [])))) []:=by
 have h:=Kb9 ⟨k,0,[],[],0,Jrc⟩ [t.enc []] (by simp) (fun i hi=>by
  have h2:=Jyc (l:=Jsh [[]] t) (fun p hp=>by simp [Jsh] at hp;rw [hp]) i (by simpa [Jsh] using hi)
  have h1:(Jsh [[]] t).map (fun p=>p.2.enc [])=[t.enc []]:=rfl
  rw [h1] at h2
  rw [h2]
  have h3:=J27 (Jsh [[]] t) i
  rw [Jww] at h3
  simp at h3;omega) (fun v hv=>by simp at hv;subst hv;omega)
 have hm:=J9y k 0 [] 0 Jrc (l:=Jsh [[]] t) (fun p hp=>by simp [Jsh] at hp;rw [hp])
 have h1:(Jsh [[]] t).map (fun p=>p.2.enc [])=[t.enc []]:=rfl
 rw [h1] at hm
 rw [hm] at h
 exact h
theorem Ka7 (ns:List (List UInt8)) (t:RT):(Jsh ns t).map (fun p=>p.2.enc [])=List.replicate ns.length (t.enc []):=by
 unfold Jsh
 rw [List.map_map]
 exact List.eq_replicate_iff.2 ⟨by simp,fun b hb=>by obtain ⟨_,_,rfl⟩:=List.mem_map.1 hb;rfl⟩
theorem Kci (ns:List (List UInt8)) (t:RT):(Jsh ns t).map (·.1)=ns:=by
 unfold Jsh
 rw [List.map_map]
 exact List.map_id' ns
theorem Kay (ns:List (List UInt8)) (t:RT) (i:Nat):((rfL (Jsh ns t)).enc).length≤100000→(rfL ((Jsh ns t).take i)).enc.length≤100000:=fun h=>Nat.le_trans (J27 _ i) h
theorem Kbr (k:Int) (t:RT) (n:Nat) (hn:n≤60) (ht:(t.enc []).length≤60):Det cx 22 [.p (.agg [.int .i64 k,.int .i64 0,.str [],.str [],.int .i64 0,.int .i64 0,.int .i64 0,.str [],.str [],.bool false,.int .i64 0]),.p .snil,.p (.sl (Jvi (List.replicate n (t.enc []))))] [] (.p (.sl (rowL ((RT.mk k [] 0 Jrc (rfL (Jsh (List.replicate n []) t))).enc [])))) []:=by
 have hsz:(rfL (Jsh (List.replicate n []) t)).enc.length≤100000:=by
  rw [Jww,List.length_replicate]
  exact Nat.le_trans (Nat.mul_le_mul hn ht) (by decide)
 have hnm:∀ p∈Jsh (List.replicate n []) t,p.1=[]:=fun p hp=>by
  obtain ⟨nm,hnm,rfl⟩:=List.mem_map.1 hp
  exact List.eq_of_mem_replicate hnm
 have h1:=Ka7 (List.replicate n []) t
 rw [List.length_replicate] at h1
 have h:=Kb9 ⟨k,0,[],[],0,Jrc⟩ (List.replicate n (t.enc [])) (by simp;omega) (fun i hi=>by
  have h2:=Jyc hnm i (by simpa [Jsh] using hi)
  rw [h1] at h2
  rw [h2]
  have:=Kay _ _ i hsz
  omega) (fun v hv=>by rw [List.eq_of_mem_replicate hv];omega)
 have hm:=J9y k 0 [] 0 Jrc hnm
 rw [h1] at hm
 rw [hm] at h
 exact h
theorem Kb5 (k:Int) (t:RT) (n:Nat) (hn:n≤60) (ht:(t.enc []).length≤60):Det cx 22 [.p (.agg [.int .i64 k,.int .i64 0,.str [],.str [],.int .i64 0,.int .i64 0,.int .i64 0,.str [],.str [],.bool false,.int .i64 0]),.p (.sl (J9g [])),.p (.sl (Jvi (List.replicate n (t.enc []))))] [] (.p (.sl (rowL ((RT.mk k [] 0 Jrc (rfL (Jsh (List.replicate n []) t))).enc [])))) []:=by
 have hsz:(rfL (Jsh (List.replicate n []) t)).enc.length≤100000:=by
  rw [Jww,List.length_replicate]
  exact Nat.le_trans (Nat.mul_le_mul hn ht) (by decide)
 have hnm:∀ p∈Jsh (List.replicate n []) t,p.1=[]:=fun p hp=>by
  obtain ⟨nm,hnm,rfl⟩:=List.mem_map.1 hp
  exact List.eq_of_mem_replicate hnm
 have h1:=Ka7 (List.replicate n []) t
 rw [List.length_replicate] at h1
 have h:=Kb8 ⟨k,0,[],[],0,Jrc⟩ [] (List.replicate n (t.enc [])) (by simp;omega) (fun i hi=>by
  have h2:=Jyc hnm i (by simpa [Jsh] using hi)
  rw [h1] at h2
  rw [h2]
  have:=Kay _ _ i hsz
  omega) (fun v hv=>by rw [List.eq_of_mem_replicate hv];omega)
 have hm:=J9y k 0 [] 0 Jrc hnm
 rw [h1] at hm
 rw [hm] at h
 exact h
theorem Kb4 (k:Int) (t:RT) (ns:List (List UInt8)) (hn:ns.length≤60) (ht:(t.enc []).length≤60):Det cx 22 [.p (.agg [.int .i64 k,.int .i64 0,.str [],.str [],.int .i64 0,.int .i64 0,.int .i64 0,.str [],.str [],.bool false,.int .i64 0]),.p (.sl (J9g ns)),.p (.sl (Jvi (List.replicate ns.length (t.enc []))))] [] (.p (.sl (rowL ((RT.mk k [] 0 Jrc (rfL (Jsh ns t))).enc [])))) []:=by
 have hsz:(rfL (Jsh ns t)).enc.length≤100000:=by
  rw [Jww]
  exact Nat.le_trans (Nat.mul_le_mul hn ht) (by decide)
 have h1:=Ka7 ns t
 have h2:=Kci ns t
 have h:=Kb8 ⟨k,0,[],[],0,Jrc⟩ ns (List.replicate ns.length (t.enc [])) (by simp;omega) (fun i hi=>by
  have h3:=Kbk (Jsh ns t) i (by simpa [Jsh] using hi)
  rw [h1,h2] at h3
  rw [h3]
  have:=Kay _ _ i hsz
  omega) (fun v hv=>by rw [List.eq_of_mem_replicate hv];omega)
 have hm:=Kc7 k 0 [] 0 Jrc (Jsh ns t)
 rw [h1,h2] at hm
 rw [hm] at h
 exact h
theorem Kcr (P:Tree→Bool):allP P []=true:=rfl
@[simp] theorem typesL_nil:Jvi []=[]:=rfl
theorem Kce {P:Tree→Bool} {l:List KT} {i:Nat} {q:KT} (h:l[i]? = some q):allP P (l.take (i+1))=(allP P (l.take i) && P q.2):=by
 rw [List.take_add_one,h,Option.toList_some]
 simp [allP]
theorem Kbp (v:List YRow) (u:List Node) (hv:TyFit v) (hu:ValFit u):Det cx 7 [.p (.sl (rowL v)),.p (.sl (valL u))] [] (.p (.bool true)) []:=by
 have hG:=Kau v u hv hu
 cases b1:Jyv v 60 with
 | false =>
  rw [b1,Bool.false_and] at hG
  (refine Jqa false [] Tryz.func7 ?_;refine Ae hm _ _ _ ?_;simp only [Tryz.ntmps7,Tryz.results7,go_sem,simprocAttr])
  (repeat' (first | ((first | (refine Det.use (hG) ?_)|(refine Det.use (Jr3) ?_));simp only [go_sem,simprocAttr]) | fail))
 | true =>
  cases b2:fewB u 60 with
  | false =>
   rw [b1,b2] at hG
   (refine Jqa false [] Tryz.func7 ?_;refine Ae hm _ _ _ ?_;simp only [Tryz.ntmps7,Tryz.results7,go_sem,simprocAttr])
   (repeat' (first | ((first | (refine Det.use (hG) ?_)|(refine Det.use (Jr3) ?_));simp only [go_sem,simprocAttr]) | fail))
  | true =>
   rw [b1,b2] at hG
   obtain ⟨t,ht,ht9,rfl,htl,hts⟩:=J66 b1
   obtain ⟨x,hx,rfl,hxl,hxf⟩:=Fw hu b2
   have hV:VFit x:=⟨hx,hxf,by omega⟩
   obtain ⟨k,s,g,e,kids⟩:=x
   have hkl:=Forest.list_len kids
   have hll:=Forest.len_le kids
   rw [A6,List.length_cons] at hxl
   have hP:=Dy [] k s g e kids (by omega)
   have hkid:∀ q∈kids.list,VFit q.2:=fun q hq=>hV.kid hq
   have hI:=fun q (hq:q∈kids.list)=>Ka5 60 t htl ht ht9 hts (by omega) q.2 (hkid q hq)
   have hgv:=Cc [] k s g e kids
   have hkn:kids.list.length≤60:=by omega
   have hone:∀ (kd:Int),(kd=3∨kd=5)→Det cx 17 [.p (.sl (rowL ((RT.mk kd [] 0 Jrc (rfL (Jsh [[]] t))).enc []))),.p (.sl (valL ((Tree.mk k s g e kids).enc [])))] [] (.p (.bool (inTy (.mk kd [] 0 Jrc (rfL (Jsh [[]] t))) (.mk k s g e kids)))) []:=fun kd hkd=>by
    have hlen:((RT.mk kd [] 0 Jrc (rfL (Jsh [[]] t))).enc []).length≤4000:=by rw [Jqk,List.length_cons,Jww];simp;omega
    exact Ka5 4000 _ hlen (Jz5 ht ht9 kd 1 (by omega)) (by simp only [RT.kind];omega) (J6o hts kd 0) (by omega) _ hV
   have hI5:=hone 5 (.inr rfl)
   have hI3:=hone 3 (.inl rfl)
   have hI4:Det cx 17 [.p (.sl (rowL ((RT.mk 4 [] 0 Jrc (rfL (Jsh (List.replicate kids.list.length []) t))).enc []))),.p (.sl (valL ((Tree.mk k s g e kids).enc [])))] [] (.p (.bool (inTy (.mk 4 [] 0 Jrc (rfL (Jsh (List.replicate kids.list.length []) t))) (.mk k s g e kids)))) []:=by
    have hlen:((RT.mk 4 [] 0 Jrc (rfL (Jsh (List.replicate kids.list.length []) t))).enc []).length≤4000:=by
     rw [Jqk,List.length_cons,Jww,List.length_replicate]
     have:=Nat.mul_le_mul hkn htl
     omega
    exact Ka5 4000 _ hlen (Jz5 ht ht9 4 _ (.inl rfl)) (by simp only [RT.kind];omega) (J6o hts 4 0) (by omega) _ hV
   obtain ⟨b5,hb5,e5,e4⟩:∃ b5:Bool,(b5=true ↔ k=5)∧inTy (.mk 5 [] 0 Jrc (rfL (Jsh [[]] t))) (Tree.mk k s g e kids)=(b5 && allP (inTy t) kids.list)∧inTy (.mk 4 [] 0 Jrc (rfL (Jsh (List.replicate kids.list.length []) t))) (Tree.mk k s g e kids)=(b5 && allP (inTy t) kids.list) :=
    ⟨decide ((Tree.mk k s g e kids).kind=5),decide_eq_true_iff,Kc3,in_tup⟩
   obtain ⟨b6,hb6,e3⟩:∃ b6:Bool,(b6=true ↔ k=6)∧inTy (.mk 3 [] 0 Jrc (rfL (Jsh [[]] t))) (Tree.mk k s g e kids)=(b6 && allP (inTy t) kids.list) :=
    ⟨decide ((Tree.mk k s g e kids).kind=6),decide_eq_true_iff,Kcw⟩
   rw [e5] at hI5
   rw [e4] at hI4
   rw [e3] at hI3
   have hA:=Ka5 1 any1 (by decide) Kac (by decide) (by unfold SFit;decide) (by decide) _ hV
   rw [show inTy any1 (Tree.mk k s g e kids)=true by unfold any1;rw [Juw];rfl,show rowL (any1.enc [])=[[.int .i64 0,.int .i64 0,.str [],.str [],.int .i64 0,.int .i64 0,.int .i64 0,.str [],.str [],.bool false,.int .i64 0]] by rfl] at hA
   have hm5:=J6q 5 t (by omega)
   have hm3:=J6q 3 t (by omega)
   have hm4:=Kbr 4 t kids.list.length hkn htl
   have hreg:∀ i q,kids.list[i]? = some q→Jvi (List.replicate (i+1) (t.enc []))=Jvi (List.replicate i (t.enc [])) ++ [[.sl (rowL (t.enc []))]]:=fun i q _=>by
    rw [List.replicate_succ'];simp [Jvi]
   generalize rowL ((RT.mk 5 [] 0 Jrc (rfL (Jsh [[]] t))).enc [])=r5 at *
   generalize rowL ((RT.mk 3 [] 0 Jrc (rfL (Jsh [[]] t))).enc [])=r3 at *
   generalize rowL ((RT.mk 4 [] 0 Jrc (rfL (Jsh (List.replicate kids.list.length []) t))).enc [])=r4 at *
   have main:∀ (ns:List (List UInt8)) (r2:List (List PV)),Det cx 27 [.p (.sl (valL ((Tree.mk k s g e kids).enc [])))] [] (.p (.sl (J9g ns))) [] →
     Det cx 22 [.p (.agg [.int .i64 2,.int .i64 0,.str [],.str [],.int .i64 0,.int .i64 0,.int .i64 0,.str [],.str [],.bool false,.int .i64 0]),.p (.sl (J9g ns)),.p (.sl (Jvi (List.replicate kids.list.length (t.enc []))))] [] (.p (.sl r2)) [] →
     (k=6→Det cx 17 [.p (.sl r2),.p (.sl (valL ((Tree.mk k s g e kids).enc [])))] [] (.p (.bool (allP (inTy t) kids.list))) []) →
     Det cx 7 [.p (.sl (rowL (t.enc []))),.p (.sl (valL ((Tree.mk k s g e kids).enc [])))] [] (.p (.bool true)) []:=by
    intro ns r2 hN hm2 hI2
    generalize hvv:valL ((Tree.mk k s g e kids).enc [])=V at *
    generalize J9g ns=NL at *
    (refine Jqa false [] Tryz.func7 ?_;refine Ae hm _ _ _ ?_;simp only [Tryz.ntmps7,Tryz.results7,go_sem,simprocAttr,A5])
    (repeat' (first | ((first | (refine Det.use (hG) ?_)|(refine Det.use (hP) ?_));simp only [go_sem,simprocAttr]) | fail))
    refine SWP.loop (fun i:Nat=>⟨Ba 121 [(0,.p (.sl (rowL (t.enc [])))),(1,.p (.sl V)),(5,.p (.sl (A4 kids.list))),(6,.p (.bool (allP (inTy t) (kids.list.take i)))),(7,.p (.int .i64 i))],[]⟩) (fun i=>i≤kids.list.length) (fun i=>kids.list.length - i) 0 (by rw [List.take_zero,Kcr];exact Jqb) (Nat.zero_le _) ?_
    rintro i hi
    by_cases hlt:i<kids.list.length
    ·have c1:((i:Int)<(kids.list.length:Int))=True:=eq_true (by omega)
     obtain ⟨q,hq⟩:∃ q,kids.list[i]? = some q:=⟨_,List.getElem?_eq_getElem hlt⟩
     have hg:=Hx hq
     have hIq:=hI q (List.mem_of_getElem? hq)
     have htk:=Kce (P:=inTy t) hq
     cases hb:allP (inTy t) (kids.list.take i) with
     | false =>
      rw [hb,Bool.false_and] at htk
      (refine Ae hm _ _ _ ?_;simp only [go_sem,simprocAttr,A5,c1,wj1 (i:=i) (by omega)])
      skip
      exact ⟨i+1,by omega,by omega,by rw [htk];exact Jqb⟩
     | true =>
      rw [hb,Bool.true_and] at htk
      (refine Ae hm _ _ _ ?_;simp only [go_sem,simprocAttr,A5,c1,hg,wj1 (i:=i) (by omega)])
      (repeat' (first | ((refine Det.use (hIq) ?_);simp only [go_sem,simprocAttr,wj1 (i:=i) (by omega)]) | fail))
      all_goals exact ⟨i+1,by omega,by omega,by rw [htk];exact Jqb⟩
    ·obtain rfl:i=kids.list.length:=by omega
     have c1:((kids.list.length:Int)<(kids.list.length:Int))=False:=eq_false (by omega)
     rw [List.take_length]
     generalize hB:allP (inTy t) kids.list=B at *
     (refine Ae hm _ _ _ ?_;simp only [go_sem,simprocAttr,A5,c1])
     (repeat' (first | ((first | (refine Det.use (hm5) ?_)|(refine Det.use (hm3) ?_));simp only [go_sem,simprocAttr]) | fail))
     refine SWP.of_le (B1 [(46,56)] _ (by simp)) ?_
     simp only [go_sem,simprocAttr]
     refine SWP.loop (fun i:Nat=>⟨Ba 121 [(0,.p (.sl (rowL (t.enc [])))),(1,.p (.sl V)),(5,.p (.sl (A4 kids.list))),(6,.p (.bool B)),(8,.p (.sl r5)),(9,.p (.sl r3)),(10,.own 56 0 i),(11,.p (.int .i64 i))],[(56,.row 23 1 (Jvi (List.replicate i (t.enc []))))]⟩) (fun i=>i≤kids.list.length) (fun i=>kids.list.length - i) 0 Jqb (Nat.zero_le _) ?_
     rintro i hi
     by_cases hlt:i<kids.list.length
     ·have c2:((i:Int)<(kids.list.length:Int))=True:=eq_true (by omega)
      obtain ⟨q,hq⟩:∃ q,kids.list[i]? = some q:=⟨_,List.getElem?_eq_getElem hlt⟩
      have htk:=hreg i q hq
      have hln:(Jvi (List.replicate i (t.enc []))).length=i:=by simp
      (refine Ae hm _ _ _ ?_;simp only [go_sem,simprocAttr,A5,c2,hln,wj1 (i:=i) (by omega)])
      (repeat' (first | (refine And.intro (by first | (simp;done)|(simp;omega)) ?_)|(refine Jsx ?_) | fail))
      exact ⟨i+1,by omega,by omega,by rw [htk];exact Jqb⟩
     ·obtain rfl:i=kids.list.length:=by omega
      have hln:(Jvi (List.replicate kids.list.length (t.enc []))).length=kids.list.length:=by simp
      have ht2:(Jvi (List.replicate kids.list.length (t.enc []))).take kids.list.length=Jvi (List.replicate kids.list.length (t.enc [])):=List.take_of_length_le (by simp)
      generalize Jvi (List.replicate kids.list.length (t.enc []))=SL at *
      by_cases k5:k=5
      ·subst k5
       have q5:b5=true:=hb5.2 rfl
       have q6:b6=false:=by cases b6 with | false=>rfl | true=>exact absurd (hb6.1 rfl) (by omega)
       subst q5
       subst q6
       cases B with
       | false =>
        (refine Ae hm _ _ _ ?_;simp only [go_sem,simprocAttr,A5,c1,c1,hln,ht2,Nat.le_refl])
        (repeat' (first | ((first | (refine Jqd hm ?_)|(refine Det.use (hm4) ?_)|(refine Det.use (hN) ?_)|(refine Det.use (hm2) ?_)|(refine Det.use (hI5) ?_)|(refine Det.use (hI4) ?_)|(refine Det.use (hI3) ?_)|(refine Det.use (hA) ?_)|(refine Det.use (Jr3) ?_));simp only [go_sem,simprocAttr,hgv,Nat.le_refl]) | fail))
       | true =>
        (refine Ae hm _ _ _ ?_;simp only [go_sem,simprocAttr,A5,c1,c1,hln,ht2,Nat.le_refl])
        (repeat' (first | ((first | (refine Jqd hm ?_)|(refine Det.use (hm4) ?_)|(refine Det.use (hN) ?_)|(refine Det.use (hm2) ?_)|(refine Det.use (hI5) ?_)|(refine Det.use (hI4) ?_)|(refine Det.use (hI3) ?_)|(refine Det.use (hA) ?_)|(refine Det.use (Jr3) ?_));simp only [go_sem,simprocAttr,hgv,Nat.le_refl]) | fail))
      ·by_cases k6:k=6
       ·subst k6
        have q5:b5=false:=by cases b5 with | false=>rfl | true=>exact absurd (hb5.1 rfl) (by omega)
        have q6:b6=true:=hb6.2 rfl
        subst q5
        subst q6
        have hI2:=hI2 rfl
        cases B with
        | false =>
         (refine Ae hm _ _ _ ?_;simp only [go_sem,simprocAttr,A5,c1,c1,hln,ht2,Nat.le_refl])
         (repeat' (first | ((first | (refine Jqd hm ?_)|(refine Det.use (hm4) ?_)|(refine Det.use (hN) ?_)|(refine Det.use (hm2) ?_)|(refine Det.use (hI5) ?_)|(refine Det.use (hI4) ?_)|(refine Det.use (hI3) ?_)|(refine Det.use (hI2) ?_)|(refine Det.use (hA) ?_)|(refine Det.use (Jr3) ?_));simp only [go_sem,simprocAttr,hgv,Nat.le_refl]) | fail))
        | true =>
         (refine Ae hm _ _ _ ?_;simp only [go_sem,simprocAttr,A5,c1,c1,hln,ht2,Nat.le_refl])
         (repeat' (first | ((first | (refine Jqd hm ?_)|(refine Det.use (hm4) ?_)|(refine Det.use (hN) ?_)|(refine Det.use (hm2) ?_)|(refine Det.use (hI5) ?_)|(refine Det.use (hI4) ?_)|(refine Det.use (hI3) ?_)|(refine Det.use (hI2) ?_)|(refine Det.use (hA) ?_)|(refine Det.use (Jr3) ?_));simp only [go_sem,simprocAttr,hgv,Nat.le_refl]) | fail))
       ·have q5:b5=false:=by cases b5 with | false=>rfl | true=>exact absurd (hb5.1 rfl) (by omega)
        have q6:b6=false:=by cases b6 with | false=>rfl | true=>exact absurd (hb6.1 rfl) (by omega)
        subst q5
        subst q6
        have e5:=eq_false k5
        have e6:=eq_false k6
        (refine Ae hm _ _ _ ?_;simp only [go_sem,simprocAttr,A5,c1,c1,hln,ht2,Nat.le_refl])
        (repeat' (first | ((first | (refine Jqd hm ?_)|(refine Det.use (hm4) ?_)|(refine Det.use (hN) ?_)|(refine Det.use (hm2) ?_)|(refine Det.use (hI5) ?_)|(refine Det.use (hI4) ?_)|(refine Det.use (hI3) ?_)|(refine Det.use (hA) ?_)|(refine Det.use (Jr3) ?_));simp only [go_sem,simprocAttr,hgv,e5,e6,Nat.le_refl]) | fail))
   by_cases k6:k=6
   ·subst k6
    have hr:Rise kids.list:=(Lu.1 hx).2.1.2.2 rfl
    have hvn:∀ p∈kids.list,valid p.1=true:=(Lu.1 hx).2.1.2.1
    have hnn:Bd kids.list=J9g (kids.list.map (·.1)):=by unfold Bd J9g;rw [List.map_map];rfl
    have hN:=Ir [] s g e kids (by omega)
    rw [hnn] at hN
    have hm2:=Kb4 2 t (kids.list.map (·.1)) (by simp;omega) htl
    rw [List.length_map] at hm2
    refine main _ _ hN hm2 fun _=>?_
    have hlen:((RT.mk 2 [] 0 Jrc (rfL (Jsh (kids.list.map (·.1)) t))).enc []).length≤4000:=by
     rw [Jqk,List.length_cons,Jww,List.length_map]
     have:=Nat.mul_le_mul hkn htl
     omega
    have h2:=Ka5 4000 _ hlen (Kby ht ht9 hr hvn) (by simp only [RT.kind];omega) (J6o hts 2 0) (by omega) _ hV
    rw [show kids.list=(Tree.mk 6 s g e kids).kids.list from rfl,in_obj (x:=.mk 6 s g e kids) hr] at h2
    exact h2
   ·have hN:=J8y k s g e kids k6
    have hm2:=Kb5 2 t kids.list.length hkn htl
    exact main [] _ hN hm2 fun h=>absurd h k6
end Go.LX
