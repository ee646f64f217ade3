/- Atoms, the document's answer: the numbers beside a number. -/
import Derived.Test.YtpaiiekgdgjjnaaGreatDoorLxZ
import Derived.Test.YtpaiiekgdgjjnaaGreatDoorLxS
set_option linter.unusedSimpArgs false
set_option linter.unusedVariables false
set_option linter.unusedSectionVars false
set_option linter.unnecessarySimpa false
set_option maxRecDepth 100000
set_option maxHeartbeats 2000000
namespace Go.LX
open Go Go.RowKit Go.Proofs
attribute [local irreducible] Al SWP Bi
theorem d_more (s:List UInt8) (hs:s.length≤10000) (hd:∀ c∈s,c≤57):Det cx 318 [.p (.str s)] [] (.p (.str (J0f s))) []:=by
 obtain ⟨pre,c,r,h1,h2,h3,h4⟩:=J4a s
 rw [h4]
 refine Det.of_belowE (enters_of Tryz.func318 (by kernel_rfl) rfl) fun β Im w vs hg hf=>?_
 obtain ⟨v,rfl,hv⟩:=fit1 hf
 cases Ks hv
 have hc:c.toNat≤254:=by
  rcases List.mem_cons.1 h3 with h | h
  ·subst h;decide
  ·have:=UInt8.le_iff_toNat_le.1 (hd c h)
   have e:(57:UInt8).toNat=57:=rfl
   omega
 refine (J96 ⟨⟨s⟩⟩ w pre c r h1 h2 hc (by show s.length≤_;omega)).mono fun e w' ⟨h,hb⟩=>⟨⟨_,h,fun β w Im=>PRep.str _⟩,hb⟩
theorem d_less (s:List UInt8) (hs:s.length≤10000) (h0:∃ c∈s,c≠48) (hd:∀ c∈s,48≤c):Det cx 319 [.p (.str s)] [] (.p (.str (Jz6 s))) []:=by
 obtain ⟨pre,c,r,h1,h2,h3,h4⟩:=J32 s h0
 rw [h4]
 refine Det.of_belowE (enters_of Tryz.func319 (by kernel_rfl) rfl) fun β Im w vs hg hf=>?_
 obtain ⟨v,rfl,hv⟩:=fit1 hf
 cases Ks hv
 have hc:1≤c.toNat:=by
  have:=UInt8.le_iff_toNat_le.1 (hd c h3)
  have e:(48:UInt8).toNat=48:=rfl
  omega
 refine (J7w ⟨⟨s⟩⟩ w pre c r h1 h2 hc (by show s.length≤_;omega)).mono fun e w' ⟨h,hb⟩=>⟨⟨_,h,fun β w Im=>PRep.str _⟩,hb⟩
theorem J7h (n:Node) (e:Int) (hn:n.s.length≤1000) (h1:-1000≤n.e) (h2:n.e≤1000) (h3:-3000≤e) (h4:e≤3000):Det cx 317 [.p (.agg [.int .i64 n.kind,.int .i64 n.many,.str n.name,.str n.s,.bool n.neg,.int .i64 n.e]),.p (.int .i64 e)] [] (.p (.str (Jr1 n e))) []:=by
 (refine Jqa false [] Tryz.func317 ?_;refine Ae hm _ _ _ ?_;simp only [Tryz.ntmps317,Tryz.results317,go_sem,simprocAttr])
 skip
 refine SWP.loop (fun j:Nat=>⟨Ba 19 [(1,.p (.int .i64 e)),(2,.ptr 2 0 0),(5,.p (.str (n.s ++ List.replicate j 48))),(6,.p (.int .i64 (e+j)))],[(2,.var 29 [.p (.int .i64 n.kind),.p (.int .i64 n.many),.p (.str n.name),.p (.str n.s),.p (.bool n.neg),.p (.int .i64 n.e)])]⟩) (fun j=>j≤(n.e - e).toNat) (fun j=>(n.e - e).toNat - j) 0 (by rw [List.replicate_zero,List.append_nil,show e+((0:Nat):Int)=e by omega];exact Jqb) (Nat.zero_le _) ?_
 rintro j hj
 by_cases hlt:j<(n.e - e).toNat
 ·have c1:(e+(j:Int)<n.e)=True:=eq_true (by omega)
  have w1:IntKind.i64.wrap (e+(j:Int)+1)=e+((j+1:Nat):Int):=by rw [Aa (by omega) (by omega)];omega
  have hcat:n.s ++ List.replicate j 48 ++ [48]=n.s ++ List.replicate (j+1) 48:=by rw [List.replicate_succ',List.append_assoc]
  (refine Ae hm _ _ _ ?_;simp only [go_sem,simprocAttr,c1,w1,hcat])
  skip
  exact ⟨by simp;omega,j+1,by omega,by omega,Jqb⟩
 ·have c1:(e+(j:Int)<n.e)=False:=eq_false (by omega)
  have hjj:(n.e - e).toNat=j:=by omega
  unfold Jr1
  rw [hjj]
  (refine Ae hm _ _ _ ?_;simp only [go_sem,simprocAttr,c1])
  skip
def besL (o:Option Node):L:=match o with
 | some m=>.tup [.agg [.int .i64 m.kind,.int .i64 m.many,.str m.name,.str m.s,.bool m.neg,.int .i64 m.e],.bool true]
 | none=>.tup [.agg [.int .i64 0,.int .i64 0,.str [],.str [],.bool false,.int .i64 0],.bool false]
theorem J2d (n:Node) (e:Int):(Jr1 n e).length=n.s.length+(n.e - e).toNat:=by simp [Jr1]
theorem J2f (n:Node) (a:Bool) (hk:n.kind=3) (hp:Jq0 n):Det cx 287 [.p (.agg [.int .i64 n.kind,.int .i64 n.many,.str n.name,.str n.s,.bool n.neg,.int .i64 n.e]),.p (.bool a)] [] (besL (Jrs n a)) []:=by
 have hnr:Yz n.s n.neg n.e:=Jsy hp.2.2 hk
 obtain ⟨f0,f1,f2,f3,f4,f5⟩:=hnr
 by_cases hs0:n.s=[]
 ·have c1:=eq_true hs0
  rw [show Jrs n a=some ⟨3,0,[],[49],!a,-1000⟩ from if_pos hs0]
  simp only [besL]
  (refine Jqa false [] Tryz.func287 ?_;refine Ae hm _ _ _ ?_;simp only [Tryz.ntmps287,Tryz.results287,go_sem,simprocAttr,c1,if_true])
  skip
 ·have c1:=eq_false hs0
  rw [show Jrs n a=(if (make n.neg (Jsk n a) (Jqv n a)).2=0 then some (make n.neg (Jsk n a) (Jqv n a)).1 else none) from if_neg hs0]
  have htop:-1001≤topR n a∧topR n a≤1100:=by unfold topR;split <;> omega
  have hle:-1000≤Jqv n a∧Jqv n a≤1000:=by unfold Jqv;omega
  have hP:=J7h n (Jqv n a) (by omega) f2 f3 (by omega) (by omega)
  have hplen:=J2d n (Jqv n a)
  have hfig:∀ c∈Jr1 n (Jqv n a),48≤c∧c≤57:=by
   intro c hc
   unfold Jr1 at hc
   rcases List.mem_append.1 hc with h | h
   ·have:=List.all_eq_true.1 f0 c h
    simp only [Ja8,Bool.and_eq_true,decide_eq_true_eq] at this
    exact ⟨UInt8.le_iff_toNat_le.2 this.1,UInt8.le_iff_toNat_le.2 this.2⟩
   ·rw [List.eq_of_mem_replicate h];exact ⟨by decide,by decide⟩
  have hM:=d_more (Jr1 n (Jqv n a)) (by omega) (fun c h=>(hfig c h).2)
  have hL:=d_less (Jr1 n (Jqv n a)) (by omega) (by
   rw [if_neg hs0] at f5
   have hpos:0<n.s.length:=by
    cases h:n.s with
    | nil=>exact absurd h hs0
    | cons=>simp
   refine ⟨n.s[0],by unfold Jr1;exact List.mem_append_left _ (List.getElem_mem hpos),fun h=>f5.1 ?_⟩
   rw [Ql hpos,h];rfl) (fun c h=>(hfig c h).1)
  have hslen:(Jsk n a).length≤1000000:=by
   unfold Jsk
   split
   ·rw [J7a];omega
   ·rw [J6z];omega
  have hK:=J67 n.neg (Jsk n a) (Jqv n a) hslen
  rw [Jsv] at hK
  have w1:IntKind.i64.wrap ((n.s.length:Int)+n.e)=(n.s.length:Int)+n.e:=Aa (by omega) (by omega)
  have w2:IntKind.i64.wrap ((n.s.length:Int)+n.e - 1)=(n.s.length:Int)+n.e - 1:=Aa (by omega) (by omega)
  have w3:IntKind.i64.wrap ((n.s.length:Int)+n.e - 100)=(n.s.length:Int)+n.e - 100:=Aa (by omega) (by omega)
  have w4:IntKind.i64.wrap ((n.s.length:Int)+n.e - 1 - 100)=(n.s.length:Int)+n.e - 1 - 100:=Aa (by omega) (by omega)
  by_cases hg:n.neg=a
  ·have c2:=eq_true hg
   have hst:Jsk n a=Jz6 (Jr1 n (Jqv n a)):=if_neg (by rw [hg];simp)
   rw [hst] at hK hslen ⊢
   by_cases h49:n.s=[49]
   ·have c3:=eq_true h49
    have hE:max ((n.s.length:Int)+n.e - 1 - 100) (-1000)=Jqv n a:=by unfold Jqv topR;rw [if_pos ⟨by rw [hg];simp,h49⟩]
    generalize Jqv n a=E at *
    (refine Jqa false [] Tryz.func287 ?_;refine Ae hm _ _ _ ?_;simp only [Tryz.ntmps287,Tryz.results287,go_sem,simprocAttr,c1,c2,c3,w1,w2,w3,w4,hE])
    (repeat' (first | (refine iteI (fun h=>?_) (fun h=>?_))|((first | (refine Det.use (hP) ?_)|(refine Det.use (hL) ?_)|(refine Det.use (hK) ?_));simp only [go_sem,simprocAttr,c2]) | fail))
    all_goals (first | (rw [if_pos (Classical.not_not.1 h)];rfl)|(rw [if_neg h];rfl))
   ·have c3:=eq_false h49
    have hE:max ((n.s.length:Int)+n.e - 100) (-1000)=Jqv n a:=by unfold Jqv topR;rw [if_neg (fun h=>h49 h.2)]
    generalize Jqv n a=E at *
    (refine Jqa false [] Tryz.func287 ?_;refine Ae hm _ _ _ ?_;simp only [Tryz.ntmps287,Tryz.results287,go_sem,simprocAttr,c1,c2,c3,w1,w2,w3,w4,hE])
    (repeat' (first | (refine iteI (fun h=>?_) (fun h=>?_))|((first | (refine Det.use (hP) ?_)|(refine Det.use (hL) ?_)|(refine Det.use (hK) ?_));simp only [go_sem,simprocAttr,c2]) | fail))
    all_goals (first | (rw [if_pos (Classical.not_not.1 h)];rfl)|(rw [if_neg h];rfl))
  ·have c2:=eq_false hg
   have hst:Jsk n a=J0f (Jr1 n (Jqv n a)):=if_pos (by simpa using hg)
   rw [hst] at hK hslen ⊢
   have hE:max ((n.s.length:Int)+n.e - 100) (-1000)=Jqv n a:=by unfold Jqv topR;rw [if_neg (fun h=>hg (by simpa using h.1))]
   generalize Jqv n a=E at *
   (refine Jqa false [] Tryz.func287 ?_;refine Ae hm _ _ _ ?_;simp only [Tryz.ntmps287,Tryz.results287,go_sem,simprocAttr,c1,c2,w1,w2,w3,w4,hE])
   (repeat' (first | (refine iteI (fun h=>?_) (fun h=>?_))|((first | (refine Det.use (hP) ?_)|(refine Det.use (hM) ?_)|(refine Det.use (hK) ?_));simp only [go_sem,simprocAttr,c2]) | fail))
   all_goals (first | (rw [if_pos (Classical.not_not.1 h)];rfl)|(rw [if_neg h];rfl))
end Go.LX
set_option maxRecDepth 100000
set_option maxHeartbeats 2000000
namespace Go.LX
open Go Go.RowKit Go.Proofs
attribute [local irreducible] Al SWP Bi
theorem J3x {l:List (Int×Node)} {i:Nat} {a:Int×Node} (h:l[i]? = some a):Jqz (l.take (i+1))=Jqz (l.take i) ++ numC a:=by
 unfold Jqz
 rw [List.take_add_one,h]
 simp
theorem J91 (a:Int×Node):(numC a).length≤3:=by
 unfold numC
 split
 ·cases Jrs a.2 true <;> cases Jrs a.2 false <;> simp
 ·simp
theorem J0k (l:List (Int×Node)):(Jqz l).length≤4+3 * l.length:=by
 unfold Jqz
 simp only [List.length_append,List.length_cons,List.length_nil]
 have:∀ l:List (Int×Node),(l.flatMap numC).length≤3 * l.length:=by
  intro l
  induction l with
  | nil=>simp
  | cons a l ih=>have:=J91 a;simp only [List.flatMap_cons,List.length_append,List.length_cons];omega
 have:=this l
 omega
def Jrw (l:List (Int×Node)) (i:Nat):List Node:=Jqz l ++ [Jum 4] ++ (l.take i).flatMap strC
theorem J4z {l:List (Int×Node)} {i:Nat} {a:Int×Node} (h:l[i]? = some a):Jrw l (i+1)=Jrw l i ++ strC a:=by
 unfold Jrw
 rw [List.take_add_one,h]
 simp
theorem J9r (a:Int×Node):(strC a).length≤2:=by unfold strC;split <;> simp
theorem J06 (l:List (Int×Node)) (i:Nat):(Jrw l i).length≤5+3 * l.length+2 * i:=by
 unfold Jrw
 have h1:=J0k l
 have:∀ l:List (Int×Node),(l.flatMap strC).length≤2 * l.length:=by
  intro l
  induction l with
  | nil=>simp
  | cons a l ih=>have:=J9r a;simp only [List.flatMap_cons,List.length_append,List.length_cons];omega
 have h2:=this (l.take i)
 have h3:(l.take i).length≤i:=List.length_take_le _ _
 simp only [List.length_append,List.length_cons,List.length_nil]
 omega
theorem J09 (l:List (Int×Node)) (hl:l.length≤100000) (ha:∀ a∈l,Jq0 a.2∧a.2.s.length≤1000000):Det cx 246 [.p (.sl (Jq3 l))] [] (.p (.sl (valL (Jsu l)))) []:=by
 (refine Jqa false [] Tryz.func246 ?_;refine Ae hm _ _ _ ?_;simp only [Tryz.ntmps246,Tryz.results246,go_sem,simprocAttr,Jqn])
 skip
 refine SWP.loop (fun i:Nat=>⟨Ba 98 [(0,.p (.sl (Jq3 l))),(3,.own 14 0 (Jqz (l.take i)).length),(4,.p (.int .i64 i))],[(14,.row 29 6 (valL (Jqz (l.take i))))]⟩) (fun i=>i≤l.length) (fun i=>l.length - i) 0 (by rw [show valL (Jqz (l.take 0))=[[.int .i64 0,.int .i64 0,.str [],.str [],.bool false,.int .i64 0],[.int .i64 1,.int .i64 0,.str [],.str [],.bool false,.int .i64 0],[.int .i64 2,.int .i64 0,.str [],.str [],.bool false,.int .i64 0],[.int .i64 3,.int .i64 0,.str [],.str [],.bool false,.int .i64 0]] from rfl,show (Jqz (l.take 0)).length=4 from rfl];exact Jqb) (Nat.zero_le _) ?_
 rintro i hi
 have hcl:=J0k (l.take i)
 rw [List.length_take,Nat.min_eq_left hi] at hcl
 have hpl:(valL (Jqz (l.take i))).length=(Jqz (l.take i)).length:=A7 _
 have hle0:((Jqz (l.take i)).length≤(Jqz (l.take i)).length)=True:=eq_true (Nat.le_refl _)
 by_cases hlt:i<l.length
 ·have c1:((i:Int)<(l.length:Int))=True:=eq_true (by omega)
  obtain ⟨a,hq⟩:∃ a,l[i]? = some a:=⟨_,List.getElem?_eq_getElem hlt⟩
  have hg:=Jus hq
  have hap:=(ha a (List.mem_of_getElem? hq)).1
  have htk:=J3x hq
  have w1:IntKind.i64.wrap ((i:Int)+1)=((i+1:Nat):Int):=by rw [Aa (by omega) (by omega)];omega
  by_cases hk:a.2.kind=3
  ·have c2:=eq_true hk
   have hB1:=J2f a.2 true hk hap
   have hB2:=J2f a.2 false hk hap
   have hnc:numC a=a.2 :: ((Jrs a.2 true).toList ++ (Jrs a.2 false).toList):=if_pos hk
   rw [hnc] at htk
   cases h1:Jrs a.2 true with
   | none =>
    cases h2:Jrs a.2 false with
    | none =>
     rw [h1] at hB1
     rw [h2] at hB2
     rw [h1,h2] at htk
     simp only [besL] at hB1 hB2
     have e1:valL (Jqz (l.take i) ++ (a.2 :: ((none:Option Node).toList ++ (none:Option Node).toList)))=valL (Jqz (l.take i)) ++ [[.int .i64 a.2.kind,.int .i64 a.2.many,.str a.2.name,.str a.2.s,.bool a.2.neg,.int .i64 a.2.e]]:=by simp [valL,Node.cells]
     have e2:(Jqz (l.take i) ++ (a.2 :: ((none:Option Node).toList ++ (none:Option Node).toList))).length=(Jqz (l.take i)).length+1:=by simp
     (refine Ae hm _ _ _ ?_;simp only [go_sem,simprocAttr,Jqn,c1,c2,hg,hpl])
     (repeat' (first | (refine And.intro (by first | (simp;done)|(simp;omega)) ?_)|(refine Jsx ?_)|((first | (refine Det.use (hB1) ?_)|(refine Det.use (hB2) ?_));simp only [go_sem,simprocAttr,hg,w1]) | fail))
     refine ⟨i+1,by omega,by omega,?_⟩
     rw [htk]
     refine (B1 [(35,14)] _ (by simp)).trans ?_
     simp only [go_sem,simprocAttr]
     rw [e1,e2]
     exact Jqb
    | some q =>
     rw [h1] at hB1
     rw [h2] at hB2
     rw [h1,h2] at htk
     simp only [besL] at hB1 hB2
     have e1:valL (Jqz (l.take i) ++ (a.2 :: ((none:Option Node).toList ++ (some q).toList)))=valL (Jqz (l.take i)) ++ [[.int .i64 a.2.kind,.int .i64 a.2.many,.str a.2.name,.str a.2.s,.bool a.2.neg,.int .i64 a.2.e]] ++ [[.int .i64 q.kind,.int .i64 q.many,.str q.name,.str q.s,.bool q.neg,.int .i64 q.e]]:=by simp [valL,Node.cells]
     have e2:(Jqz (l.take i) ++ (a.2 :: ((none:Option Node).toList ++ (some q).toList))).length=(Jqz (l.take i)).length+1+1:=by simp
     (refine Ae hm _ _ _ ?_;simp only [go_sem,simprocAttr,Jqn,c1,c2,hg,hpl])
     (repeat' (first | (refine And.intro (by first | (simp;done)|(simp;omega)) ?_)|(refine Jsx ?_)|((first | (refine Det.use (hB1) ?_)|(refine Det.use (hB2) ?_));simp only [go_sem,simprocAttr,hg,w1]) | fail))
     refine ⟨i+1,by omega,by omega,?_⟩
     rw [htk]
     refine (B1 [(63,14)] _ (by simp)).trans ?_
     simp only [go_sem,simprocAttr]
     rw [e1,e2]
     exact Jqb
   | some m =>
    cases h2:Jrs a.2 false with
    | none =>
     rw [h1] at hB1
     rw [h2] at hB2
     rw [h1,h2] at htk
     simp only [besL] at hB1 hB2
     have e1:valL (Jqz (l.take i) ++ (a.2 :: ((some m).toList ++ (none:Option Node).toList)))=valL (Jqz (l.take i)) ++ [[.int .i64 a.2.kind,.int .i64 a.2.many,.str a.2.name,.str a.2.s,.bool a.2.neg,.int .i64 a.2.e]] ++ [[.int .i64 m.kind,.int .i64 m.many,.str m.name,.str m.s,.bool m.neg,.int .i64 m.e]]:=by simp [valL,Node.cells]
     have e2:(Jqz (l.take i) ++ (a.2 :: ((some m).toList ++ (none:Option Node).toList))).length=(Jqz (l.take i)).length+1+1:=by simp
     (refine Ae hm _ _ _ ?_;simp only [go_sem,simprocAttr,Jqn,c1,c2,hg,hpl])
     (repeat' (first | (refine And.intro (by first | (simp;done)|(simp;omega)) ?_)|(refine Jsx ?_)|((first | (refine Det.use (hB1) ?_)|(refine Det.use (hB2) ?_));simp only [go_sem,simprocAttr,hg,w1]) | fail))
     refine ⟨i+1,by omega,by omega,?_⟩
     rw [htk]
     refine (B1 [(49,14)] _ (by simp)).trans ?_
     simp only [go_sem,simprocAttr]
     rw [e1,e2]
     exact Jqb
    | some q =>
     rw [h1] at hB1
     rw [h2] at hB2
     rw [h1,h2] at htk
     simp only [besL] at hB1 hB2
     have e1:valL (Jqz (l.take i) ++ (a.2 :: ((some m).toList ++ (some q).toList)))=valL (Jqz (l.take i)) ++ [[.int .i64 a.2.kind,.int .i64 a.2.many,.str a.2.name,.str a.2.s,.bool a.2.neg,.int .i64 a.2.e]] ++ [[.int .i64 m.kind,.int .i64 m.many,.str m.name,.str m.s,.bool m.neg,.int .i64 m.e]] ++ [[.int .i64 q.kind,.int .i64 q.many,.str q.name,.str q.s,.bool q.neg,.int .i64 q.e]]:=by simp [valL,Node.cells]
     have e2:(Jqz (l.take i) ++ (a.2 :: ((some m).toList ++ (some q).toList))).length=(Jqz (l.take i)).length+1+1+1:=by simp
     (refine Ae hm _ _ _ ?_;simp only [go_sem,simprocAttr,Jqn,c1,c2,hg,hpl])
     (repeat' (first | (refine And.intro (by first | (simp;done)|(simp;omega)) ?_)|(refine Jsx ?_)|((first | (refine Det.use (hB1) ?_)|(refine Det.use (hB2) ?_));simp only [go_sem,simprocAttr,hg,w1]) | fail))
     refine ⟨i+1,by omega,by omega,?_⟩
     rw [htk]
     refine (B1 [(63,14)] _ (by simp)).trans ?_
     simp only [go_sem,simprocAttr]
     rw [e1,e2]
     exact Jqb
  ·have c2:=eq_false hk
   have hnc:numC a=[]:=if_neg hk
   rw [hnc,List.append_nil] at htk
   (refine Ae hm _ _ _ ?_;simp only [go_sem,simprocAttr,Jqn,c1,c2,hg,w1])
   skip
   refine ⟨i+1,by omega,by omega,?_⟩
   rw [htk]
   exact Jqb
 ·have hil:i=l.length:=by omega
  subst hil
  have c1:((l.length:Int)<(l.length:Int))=False:=eq_false (by omega)
  rw [List.take_length] at *
  (refine Ae hm _ _ _ ?_;simp only [go_sem,simprocAttr,Jqn,c1,hpl])
  (repeat' (first | (refine And.intro (by first | (simp;done)|(simp;omega)) ?_)|(refine Jsx ?_) | fail))
  refine SWP.loop (fun i:Nat=>⟨Ba 98 [(0,.p (.sl (Jq3 l))),(3,.own 67 0 (Jrw l i).length),(9,.p (.int .i64 i))],[(67,.row 29 6 (valL (Jrw l i)))]⟩) (fun i=>i≤l.length) (fun i=>l.length - i) 0 (by rw [show valL (Jrw l 0)=valL (Jqz l) ++ [[.int .i64 4,.int .i64 0,.str [],.str [],.bool false,.int .i64 0]] by simp [Jrw,valL,Jum,Node.cells],show (Jrw l 0).length=(Jqz l).length+1 by simp [Jrw]];exact Jqb) (Nat.zero_le _) ?_
  rintro i hi
  have hcl:=J06 l i
  have hpl:(valL (Jrw l i)).length=(Jrw l i).length:=A7 _
  have hle0:((Jrw l i).length≤(Jrw l i).length)=True:=eq_true (Nat.le_refl _)
  by_cases hlt:i<l.length
  ·have c1:((i:Int)<(l.length:Int))=True:=eq_true (by omega)
   obtain ⟨a,hq⟩:∃ a,l[i]? = some a:=⟨_,List.getElem?_eq_getElem hlt⟩
   have hg:=Jus hq
   have htk:=J4z hq
   have hsl:=(ha a (List.mem_of_getElem? hq)).2
   have w1:IntKind.i64.wrap ((i:Int)+1)=((i+1:Nat):Int):=by rw [Aa (by omega) (by omega)];omega
   by_cases hk:a.2.kind=4
   ·have c2:=eq_true hk
    have hnc:strC a=[a.2,⟨4,0,[],a.2.s ++ [0],false,0⟩]:=if_pos hk
    rw [hnc] at htk
    have e1:valL (Jrw l i ++ [a.2,⟨4,0,[],a.2.s ++ [0],false,0⟩])=valL (Jrw l i) ++ [[.int .i64 a.2.kind,.int .i64 a.2.many,.str a.2.name,.str a.2.s,.bool a.2.neg,.int .i64 a.2.e],[.int .i64 4,.int .i64 0,.str [],.str (a.2.s ++ [0]),.bool false,.int .i64 0]]:=by simp [valL,Node.cells]
    have e2:(Jrw l i ++ [a.2,⟨4,0,[],a.2.s ++ [0],false,0⟩]).length=(Jrw l i).length+2:=by simp
    (refine Ae hm _ _ _ ?_;simp only [go_sem,simprocAttr,Jqn,c1,c1,c2,hg])
    skip
    (refine Gi 15 hm (by kernel_rfl) (by kernel_rfl) ?_;simp only [go_sem,simprocAttr,hpl,hg,hpl,w1])
    (repeat' (refine And.intro (by first | omega | (simp;done)|(simp;omega)) ?_))
    refine ⟨i+1,by omega,by omega,?_⟩
    rw [htk]
    refine (B1 [(96,67)] _ (by simp)).trans ?_
    simp only [go_sem,simprocAttr]
    rw [e1,e2]
    exact Jqb
   ·have c2:=eq_false hk
    have hnc:strC a=[]:=if_neg hk
    rw [hnc,List.append_nil] at htk
    (refine Ae hm _ _ _ ?_;simp only [go_sem,simprocAttr,Jqn,c1,c1,c2,hg,w1])
    skip
    refine ⟨i+1,by omega,by omega,?_⟩
    rw [htk]
    exact Jqb
  ·have hil:i=l.length:=by omega
   subst hil
   have c1:((l.length:Int)<(l.length:Int))=False:=eq_false (by omega)
   have hR:Jrw l l.length=Jsu l:=by unfold Jrw Jsu;rw [List.take_length]
   rw [hR] at hcl hpl hle0 ⊢
   have htk:(valL (Jsu l)).take (Jsu l).length=valL (Jsu l):=List.take_of_length_le (by rw [A7];exact Nat.le_refl _)
   (refine Ae hm _ _ _ ?_;simp only [go_sem,simprocAttr,Jqn,c1,hpl,hle0,c1,hpl,hle0,htk])
   skip
theorem J6r {n:Node} (h:Jq0 n) (hs:n.s.length≤500):CandFit n:=by
 obtain ⟨h1,h2,h3⟩:=h
 unfold G3 at h3
 by_cases g1:n.kind=0∨n.kind=1∨n.kind=2
 ·rw [if_pos g1] at h3
  exact ⟨by omega,h2,by omega,by omega⟩
 ·rw [if_neg g1] at h3
  by_cases g2:n.kind=3
  ·rw [if_pos g2] at h3
   obtain ⟨_,_,_,k1,k2,_⟩:=h3
   exact ⟨by omega,h2,k1,k2⟩
  ·rw [if_neg g2] at h3
   by_cases g3:n.kind=4
   ·rw [if_pos g3] at h3
    exact ⟨by omega,h2,by omega,by omega⟩
   ·rw [if_neg g3] at h3
    by_cases g4:n.kind=5∨n.kind=6
    ·omega
    ·rw [if_neg g4] at h3;exact h3.elim
theorem J7e {c:List Node} {p:Node→Bool} {i:Nat} {n:Node} (h:c[i]? = some n):(c.drop i).find? p=if p n=true then some n else (c.drop (i+1)).find? p:=by
 have hi:=(List.getElem?_eq_some_iff.1 h).1
 rw [List.drop_eq_getElem_cons hi,List.find?_cons]
 have:c[i]=n:=by rw [List.getElem?_eq_getElem hi] at h;exact Option.some.inj h
 rw [this]
 cases p n <;> simp
theorem J6m (l:List (Int×Node)):(Jsu l).length≤5+5 * l.length:=by
 have h:=J06 l l.length
 have hR:Jrw l l.length=Jsu l:=by unfold Jrw Jsu;rw [List.take_length]
 rw [hR] at h;omega
theorem Kc2 (m:Nat) (l:List (Int×Node)) (hmk:m≤1000) (hl:l.length≤100000) (ha:∀ a∈l,Jrb a.1 a.2∧a.2.s.length≤500):Det cx 198 [.p (.int .i64 m),.p (.sl (Jq3 l))] [] (besL ((Jsu l).find? (Jqs m l))) []:=by
 have hC:=J09 l hl (fun a h=>⟨(ha a h).1.2.2,by have:=(ha a h).2;omega⟩)
 have hfit:∀ n∈Jsu l,CandFit n:=fun n hn=>J9o (fun a h=>⟨J6r (ha a h).1.2.2 (ha a h).2,(ha a h).2⟩) hn
 have hlen:=J6m l
 generalize Jsu l=c at *
 (refine Jqa false [] Tryz.func198 ?_;refine Ae hm _ _ _ ?_;simp only [Tryz.ntmps198,Tryz.results198,go_sem,simprocAttr])
 (repeat' (first | ((refine Det.use (hC) ?_);simp only [go_sem,simprocAttr]) | fail))
 refine SWP.loop (fun i:Nat=>⟨Ba 28 [(0,.p (.int .i64 m)),(1,.p (.sl (Jq3 l))),(4,.ptr 4 0 0),(6,.p (.sl (valL c))),(7,.p (.int .i64 i))],[(4,.var 29 [.p (.int .i64 0),.p (.int .i64 0),.p (.str []),.p (.str []),.p (.bool false),.p (.int .i64 0)])]⟩) (fun i=>i≤c.length∧c.find? (Jqs m l)=(c.drop i).find? (Jqs m l)) (fun i=>c.length - i) 0 Jqb ⟨Nat.zero_le _,rfl⟩ ?_
 rintro i ⟨hi,hf⟩
 rw [hf]
 by_cases hlt:i<c.length
 ·have c1:((i:Int)<(c.length:Int))=True:=eq_true (by omega)
  obtain ⟨n,hq⟩:∃ n,c[i]? = some n:=⟨_,List.getElem?_eq_getElem hlt⟩
  have hg:=U5 hq
  have hn:=hfit n (List.mem_of_getElem? hq)
  have hM:=J14 m l n hmk (by omega) (fun a h=>(ha a h).1) ⟨by have:=hn.s;omega,by rw [hn.name];simp,by have:=hn.e0;omega,by have:=hn.e1;omega⟩
  have w1:IntKind.i64.wrap ((i:Int)+1)=((i+1:Nat):Int):=by rw [Aa (by omega) (by omega)];omega
  rw [J7e hq]
  cases hb:Jqs m l n with
  | true =>
   rw [hb] at hM
   (refine Ae hm _ _ _ ?_;simp only [go_sem,simprocAttr,c1,hg,A7])
   (repeat' (first | ((refine Det.use (hM) ?_);simp only [go_sem,simprocAttr,hg]) | fail))
   rfl
  | false =>
   rw [hb] at hM
   (refine Ae hm _ _ _ ?_;simp only [go_sem,simprocAttr,c1,hg,A7])
   (repeat' (first | ((refine Det.use (hM) ?_);simp only [go_sem,simprocAttr,w1]) | fail))
   exact ⟨i+1,⟨by omega,rfl⟩,by omega,Jqb⟩
 ·have hil:i=c.length:=by omega
  subst hil
  have c1:((c.length:Int)<(c.length:Int))=False:=eq_false (by omega)
  rw [List.drop_length]
  (refine Ae hm _ _ _ ?_;simp only [go_sem,simprocAttr,c1,A7])
  skip
  rfl
end Go.LX
set_option maxRecDepth 100000
set_option maxHeartbeats 2000000
namespace Go.LX
open Go Go.RowKit Go.Proofs
attribute [local irreducible] Al SWP Bi
def Jyf (l:List YRow):List (Int×Node):=l.map fun r=>(r.n,r.c)
def Jqu (v:List YRow) (i m:Nat):List (Int×Node):=Jyf ((v.drop (i+1)).take m)
theorem Jt3 {v:List YRow} {i m:Nat} (h:i+m<v.length):(Jqu v i m).length=m:=by
 simp [Jqu,Jyf];omega
theorem Jw8 {v:List YRow} {i m j:Nat} {q:YRow} (h:v[i+1+j]? = some q) (hj:j<m):(Jqu v i m)[j]? = some (q.n,q.c):=by
 simp only [Jqu,Jyf,List.getElem?_map,List.getElem?_take,if_pos hj,List.getElem?_drop,h,Option.map_some]
theorem J68 (v:List YRow) (i m:Nat) (r:YRow) (hr:v[i]? = some r) (hk:r.kind=1) (hrm:r.many=(m:Int)) (hb:i+m<v.length) (hv:v.length≤999999):Det cx 145 [.p (.sl (rowL v)),.p (.int .i64 i)] [] (.p (.sl (Jq3 (Jqu v i m)))) []:=by
 have hg0:=Jtt hr
 rw [hk,hrm] at hg0
 have hal:=Jt3 hb
 have w0:IntKind.i64.wrap ((i:Int)+1)=((i+1:Nat):Int):=by rw [Aa (by omega) (by omega)];omega
 (refine Jqa false [] Tryz.func145 ?_;refine Ae hm _ _ _ ?_;simp only [Tryz.ntmps145,Tryz.results145,go_sem,simprocAttr,hg0,w0])
 skip
 refine SWP.of_le (B1 [(7,42)] _ (by simp)) ?_
 simp only [go_sem,simprocAttr]
 refine SWP.loop (fun j:Nat=>⟨Ba 44 [(0,.p (.sl (rowL v))),(1,.p (.int .i64 i)),(5,.own 42 0 j),(6,.p (.int .i64 (i+1+j:Nat)))],[(42,.row 118 7 (Jq3 ((Jqu v i m).take j)))]⟩) (fun j=>j≤m) (fun j=>m - j) 0 (by rw [show Jq3 (List.take 0 (Jqu v i m))=[] from rfl];exact Jqb) (Nat.zero_le _) ?_
 rintro j hj
 have w3:IntKind.i64.wrap ((i:Int)+(m:Int))=((i+m:Nat):Int):=by rw [Aa (by omega) (by omega)];omega
 by_cases hlt:¬ j<m
 ·have hi2:j=m:=by omega
  subst hi2
  have c1:(((i+1+j:Nat):Int)≤((i+j:Nat):Int))=False:=eq_false (by omega)
  have hpl:(j≤(Jqu v i j).length)=True:=eq_true (by omega)
  have ht1:(Jqu v i j).take j=Jqu v i j:=List.take_of_length_le (by omega)
  have ht2:(Jq3 (Jqu v i j)).take j=Jq3 (Jqu v i j):=List.take_of_length_le (by rw [Jqn];omega)
  (refine Ae hm _ _ _ ?_;simp only [go_sem,simprocAttr,hg0,c1,w3,hpl,ht1,ht2,Jqn])
  skip
 ·have hlt:=Decidable.not_not.1 hlt
  obtain ⟨q,hq⟩:∃ q,v[i+1+j]? = some q:=⟨_,List.getElem?_eq_getElem (by omega)⟩
  have hgi:=Jtt hq
  have hga:=Jw8 hq hlt
  have htk:=Jyn hga
  have hpl:(Jq3 ((Jqu v i m).take j)).length=j:=by rw [Jqn,List.length_take];omega
  have c1:(((i+1+j:Nat):Int)≤((i+m:Nat):Int))=True:=eq_true (by omega)
  have w4:IntKind.i64.wrap (((i+1+j:Nat):Int)+1)=((i+1+(j+1):Nat):Int):=by rw [Aa (by omega) (by omega)];omega
  (refine Ae hm _ _ _ ?_;simp only [go_sem,simprocAttr,hg0,c1,w3])
  skip
  refine J2z 12 [1,2,3,4,5,6,7,8,9,10,11] (.node 0 (.node 12 (.node 13 (.node 14 .leaf .nil) .nil) .nil) (.node 12 (.node 0 (.node 13 (.node 14 .leaf .nil) .nil) .nil) .nil)) 4 hm rfl (by kernel_rfl) (by kernel_rfl) ?_
  simp only [go_sem,simprocAttr,hgi,hpl,w4]
  refine ⟨⟨by simp,by omega,by omega,j+1,by omega,by omega,?_⟩,⟨by simp,by omega,by omega,j+1,by omega,by omega,?_⟩⟩
  ·rw [htk]
   exact Jqb
  ·rw [htk]
   exact Jqb
theorem J0q:∀ (N:Nat) (F:RF),F.enc.length≤N→okRF F→∀ (i:Nat) (r:YRow),F.enc[i]? = some r→r.kind=1 →
  ∃ m:Nat,r.many=(m:Int)∧i+m<F.enc.length∧1≤r.n∧r.n≤31∧∀ j q,j<m→F.enc[i+1+j]? = some q→Jrb q.n q.c
 | 0,F,hN,_,i,r,hr,_=>by
  have:=(List.getElem?_eq_some_iff.1 hr).1;omega
 | N+1,.nil,hN,_,i,r,hr,_=>by rw [Jqt] at hr;simp at hr
 | N+1,.cons nm (.mk k s n c kids) rest,hN,hok,i,r,hr,hk=>by
  rw [Jz7] at hok
  obtain ⟨h1,h2,h3,h4⟩:=hok
  have henc:(RF.cons nm (.mk k s n c kids) rest).enc=⟨k,kids.len,nm,s,n,c⟩ :: (kids.app rest).enc:=by
   rw [Jqf,Jqk,RF.enc_app];rfl
  rw [henc] at hr hN ⊢
  cases i with
  | succ i =>
   rw [List.getElem?_cons_succ] at hr
   obtain ⟨m,a1,a2,a3,a4,a5⟩:=J0q N (kids.app rest) (by simp only [List.length_cons] at hN;omega) h4 i r hr hk
   refine ⟨m,a1,by simp only [List.length_cons];omega,a3,a4,fun j q hj hq=>?_⟩
   rw [show i+1+1+j=(i+1+j)+1 by omega,List.getElem?_cons_succ] at hq
   exact a5 j q hj hq
  | zero =>
   rw [List.getElem?_cons_zero] at hr
   cases hr
   simp only at hk ⊢
   subst hk
   have hkids:∀ p∈kids.list,p.2.kind=9:=fun p hp=>((h2.1 p hp).1).2 rfl
   rw [Jy3] at h4
   have hokk:=Jtq.1 h4.1
   have hleaf:J0b kids.list:=by
    intro p hp
    have ho:=hokk p hp
    have h9:=hkids p hp
    obtain ⟨nm',⟨k',s',n',c',kids'⟩⟩:=p
    simp only [RT.kind,RT.kids] at h9 ⊢
    rw [Jtm] at ho
    subst h9
    have hz:kids'.len=0:=by have:=ho.1;unfold Jq6 at this;simp at this;omega
    cases kids' with
    | nil=>rfl
    | cons a b c=>simp [RF.len] at hz
   unfold Jq6 at h1
   simp at h1
   have hll:=RF.list_len kids
   have hel:=Jzb hleaf
   refine ⟨kids.len,rfl,?_,h1.1,h1.2.1,fun j q hj hq=>?_⟩
   ·rw [RF.enc_app];simp only [List.length_cons,List.length_append];omega
   ·rw [Nat.zero_add,Nat.add_comm 1 j,List.getElem?_cons_succ,RF.enc_app,List.getElem?_append_left (by omega)] at hq
    obtain ⟨p,hp⟩:∃ p,kids.list[j]? = some p:=⟨_,List.getElem?_eq_getElem (by omega)⟩
    rw [Jzh hleaf hp] at hq
    cases hq
    have ho:=hokk p (List.mem_of_getElem? hp)
    have h9:=hkids p (List.mem_of_getElem? hp)
    obtain ⟨nm',⟨k',s',n',c',kids'⟩⟩:=p
    rw [Jtm] at ho
    simp only [RT.kind] at h9
    subst h9
    have:=ho.1
    unfold Jq6 at this
    simp at this
    exact this.2.2
noncomputable def Jt6 (v:List YRow) (i:Nat):Bool:=match v[i]? with
 | some r=>if r.kind=1 then ((Jsu (Jqu v i r.many.toNat)).find? (Jqs r.n (Jqu v i r.many.toNat))).isSome else true
 | none=>true
noncomputable def Jvf (v:List YRow):Bool:=Js5 v && allF (Jt6 v) v.length 0
theorem d_Good (v:List YRow) (hv:v.length≤10000) (hf:∀ n∈v,RowFit n) (hs:∀ n∈v,n.c.s.length≤500):Det cx 122 [.p (.sl (rowL v))] [] (.p (.bool (Jvf v))) []:=by
 have hR:=J1p v hv hf
 cases hr:Js5 v with
 | false =>
  rw [hr] at hR
  rw [show Jvf v=false by unfold Jvf;rw [hr];rfl]
  (refine Jqa false [] Tryz.func122 ?_;refine Ae hm _ _ _ ?_;simp only [Tryz.ntmps122,Tryz.results122,go_sem,simprocAttr])
  (repeat' (first | ((refine Det.use (hR) ?_);simp only [go_sem,simprocAttr]) | fail))
 | true =>
  rw [hr] at hR
  rw [show Jvf v=allF (Jt6 v) v.length 0 by unfold Jvf;rw [hr];rfl]
  obtain ⟨t,hok,hk9,ht⟩:=Jtg.1 hr
  have hsc:∀ (i:Nat) (r:YRow),v[i]? = some r→r.kind=1→∃ m:Nat,r.many=(m:Int)∧i+m<v.length∧1≤r.n∧r.n≤31∧∀ j q,j<m→v[i+1+j]? = some q→Jrb q.n q.c:=by
   have hF:(RF.cons [] t .nil).enc=v:=by rw [Jqf,Jqt,List.append_nil,ht]
   have:=J0q v.length (.cons [] t .nil) (by rw [hF];exact Nat.le_refl _) (by rw [Jsb];exact ⟨hok,Jst⟩)
   rw [hF] at this;exact this
  (refine Jqa false [] Tryz.func122 ?_;refine Ae hm _ _ _ ?_;simp only [Tryz.ntmps122,Tryz.results122,go_sem,simprocAttr,Jqe])
  (repeat' (first | ((refine Det.use (hR) ?_);simp only [go_sem,simprocAttr]) | fail))
  refine SWP.loop (fun i:Nat=>⟨Ba 35 [(0,.p (.sl (rowL v))),(3,.p (.int .i64 i))],[]⟩) (fun i=>i≤v.length∧allF (Jt6 v) v.length 0=allF (Jt6 v) (v.length - i) i) (fun i=>v.length - i) 0 Jqb ⟨Nat.zero_le _,rfl⟩ ?_
  rintro i ⟨hi,hall⟩
  by_cases hlt:¬ i<v.length
  ·have c1:((i:Int)<(v.length:Int))=False:=eq_false (by omega)
   rw [show v.length - i=0 by omega,allF] at hall
   rw [hall]
   (refine Ae hm _ _ _ ?_;simp only [go_sem,simprocAttr,Jqe,c1])
   skip
  ·have hlt:=Decidable.not_not.1 hlt
   have c1:((i:Int)<(v.length:Int))=True:=eq_true (by omega)
   obtain ⟨r,hq⟩:∃ r,v[i]? = some r:=⟨_,List.getElem?_eq_getElem hlt⟩
   have hg:=Jtt hq
   have w1:=wj1 (i:=i) (by omega)
   obtain ⟨k,hk1⟩:∃ k,v.length - i=k+1:=⟨v.length - i - 1,by omega⟩
   rw [hk1,allF] at hall
   by_cases h1:r.kind=1
   ·have c2:=eq_true h1
    obtain ⟨m,hrm,hb,hn0,hn1,hat⟩:=hsc i r hq h1
    obtain ⟨N,hN⟩:∃ N:Nat,r.n=(N:Int):=⟨r.n.toNat,by omega⟩
    have hA:=J68 v i m r hq h1 hrm hb (by omega)
    have hat':∀ a∈Jqu v i m,Jrb a.1 a.2∧a.2.s.length≤500:=by
     intro a ha
     obtain ⟨j,hj⟩:=List.getElem?_of_mem ha
     have hjm:j<m:=by
      have:=(List.getElem?_eq_some_iff.1 hj).1
      rw [Jt3 hb] at this;exact this
     obtain ⟨q,hq2⟩:∃ q,v[i+1+j]? = some q:=⟨_,List.getElem?_eq_getElem (by omega)⟩
     have:=Jw8 (m:=m) hq2 hjm
     rw [this] at hj
     cases hj
     exact ⟨hat j q hjm hq2,hs q (List.mem_of_getElem? hq2)⟩
    have hLs:=Kc2 N (Jqu v i m) (by omega) (by rw [Jt3 hb];omega) hat'
    have hga:Jt6 v i=((Jsu (Jqu v i m)).find? (Jqs (N:Int) (Jqu v i m))).isSome:=by
     unfold Jt6
     rw [hq]
     simp only [h1,if_true,hrm,Int.toNat_natCast,hN]
    rw [hga] at hall
    rw [hN] at hg
    cases hfd:(Jsu (Jqu v i m)).find? (Jqs (N:Int) (Jqu v i m)) with
    | none =>
     rw [hfd] at hLs hall
     simp only [besL] at hLs
     (refine Ae hm _ _ _ ?_;simp only [go_sem,simprocAttr,Jqe,c1,c2,hg])
     skip
     refine Jt5 12 [0,1,2,3,4,5,6] (.node 7 (.node 8 (.node 9 (.node 10 (.node 11 (.node 12 (.node 13 (.node 14 .leaf .nil) .nil) .nil) (.node 12 (.node 11 (.node 13 (.node 14 .leaf .nil) .nil) (.node 13 (.node 11 (.node 14 .leaf .nil) .nil) .nil)) .nil)) (.node 11 (.node 10 (.node 12 (.node 13 (.node 14 .leaf .nil) .nil) .nil) (.node 12 (.node 10 (.node 13 (.node 14 .leaf .nil) .nil) .nil) .nil)) (.node 12 (.node 10 (.node 11 (.node 13 (.node 14 .leaf .nil) .nil) (.node 13 (.node 11 (.node 14 .leaf .nil) .nil) .nil)) (.node 11 (.node 10 (.node 13 (.node 14 .leaf .nil) .nil) .nil) .nil)) .nil))) (.node 12 (.node 9 (.node 10 (.node 11 (.node 13 (.node 14 .leaf .nil) .nil) (.node 13 (.node 11 (.node 14 .leaf .nil) .nil) .nil)) (.node 11 (.node 10 (.node 13 (.node 14 .leaf .nil) .nil) .nil) .nil)) .nil) .nil)) (.node 12 (.node 8 (.node 9 (.node 10 (.node 11 (.node 13 (.node 14 .leaf .nil) .nil) (.node 13 (.node 11 (.node 14 .leaf .nil) .nil) .nil)) (.node 11 (.node 10 (.node 13 (.node 14 .leaf .nil) .nil) .nil) .nil)) .nil) .nil) .nil)) (.node 12 (.node 7 (.node 8 (.node 9 (.node 10 (.node 11 (.node 13 (.node 14 .leaf .nil) .nil) (.node 13 (.node 11 (.node 14 .leaf .nil) .nil) .nil)) (.node 11 (.node 10 (.node 13 (.node 14 .leaf .nil) .nil) .nil) .nil)) .nil) .nil) .nil) .nil)) 8 hm rfl (by kernel_rfl) (by kernel_rfl) ?_
     simp only [go_sem,simprocAttr,hg]
     (repeat' (first | (refine And.intro ?_ ?_)|((first | (refine Det.useQ (hA) ?_)|(refine Det.useQ (hLs) ?_));simp only [go_sem,simprocAttr]) | fail))
     all_goals (rw [hall];rfl)
    | some x =>
     rw [hfd] at hLs hall
     simp only [besL] at hLs
     (refine Ae hm _ _ _ ?_;simp only [go_sem,simprocAttr,Jqe,c1,c2,hg])
     skip
     refine Jt5 12 [0,1,2,3,4,5,6] (.node 7 (.node 8 (.node 9 (.node 10 (.node 11 (.node 12 (.node 13 (.node 14 .leaf .nil) .nil) .nil) (.node 12 (.node 11 (.node 13 (.node 14 .leaf .nil) .nil) (.node 13 (.node 11 (.node 14 .leaf .nil) .nil) .nil)) .nil)) (.node 11 (.node 10 (.node 12 (.node 13 (.node 14 .leaf .nil) .nil) .nil) (.node 12 (.node 10 (.node 13 (.node 14 .leaf .nil) .nil) .nil) .nil)) (.node 12 (.node 10 (.node 11 (.node 13 (.node 14 .leaf .nil) .nil) (.node 13 (.node 11 (.node 14 .leaf .nil) .nil) .nil)) (.node 11 (.node 10 (.node 13 (.node 14 .leaf .nil) .nil) .nil) .nil)) .nil))) (.node 12 (.node 9 (.node 10 (.node 11 (.node 13 (.node 14 .leaf .nil) .nil) (.node 13 (.node 11 (.node 14 .leaf .nil) .nil) .nil)) (.node 11 (.node 10 (.node 13 (.node 14 .leaf .nil) .nil) .nil) .nil)) .nil) .nil)) (.node 12 (.node 8 (.node 9 (.node 10 (.node 11 (.node 13 (.node 14 .leaf .nil) .nil) (.node 13 (.node 11 (.node 14 .leaf .nil) .nil) .nil)) (.node 11 (.node 10 (.node 13 (.node 14 .leaf .nil) .nil) .nil) .nil)) .nil) .nil) .nil)) (.node 12 (.node 7 (.node 8 (.node 9 (.node 10 (.node 11 (.node 13 (.node 14 .leaf .nil) .nil) (.node 13 (.node 11 (.node 14 .leaf .nil) .nil) .nil)) (.node 11 (.node 10 (.node 13 (.node 14 .leaf .nil) .nil) .nil) .nil)) .nil) .nil) .nil) .nil)) 8 hm rfl (by kernel_rfl) (by kernel_rfl) ?_
     simp only [go_sem,simprocAttr,hg]
     (repeat' (first | (refine And.intro ?_ ?_)|((first | (refine Det.useQ (hA) ?_)|(refine Det.useQ (hLs) ?_));simp only [go_sem,simprocAttr,w1]) | fail))
     all_goals exact ⟨i+1,⟨by omega,by rw [hall,show v.length - (i+1)=k by omega];rfl⟩,by omega,Jqb⟩
   ·have c2:=eq_false h1
    rw [show Jt6 v i=true by unfold Jt6;rw [hq];simp only [if_neg h1],Bool.true_and] at hall
    (refine Ae hm _ _ _ ?_;simp only [go_sem,simprocAttr,Jqe,c1,c2,hg,w1])
    skip
    exact ⟨i+1,⟨by omega,by rw [hall,show v.length - (i+1)=k by omega]⟩,by omega,Jqb⟩
def Juj (r:YRow):Bool:=decide (r.s.length≤100) && (decide (r.name.length≤100) && decide (r.c.s.length≤100))
def Jse (v:List YRow) (m:Nat):Bool:=decide (v.length≤m) && v.all Juj
noncomputable def Jyv (v:List YRow) (m:Nat):Bool:=Jse v m && Jvf v
structure ERow (r:YRow):Prop where
 s:r.s.length≤9223372036854775807
 name:r.name.length≤9223372036854775807
 cs:r.c.s.length≤9223372036854775807
 e0:-9223372036854775808≤r.c.e
 e1:r.c.e≤9223372036854775807
theorem Kc9 (v:List YRow) (m:Nat) (hm':m≤1000) (hv:v.length≤9223372036854775807) (hf:∀ n∈v,ERow n):Det cx 121 [.p (.sl (rowL v)),.p (.int .i64 m)] [] (.p (.bool (Jse v m))) []:=by
 (refine Jqa false [] Tryz.func121 ?_;refine Ae hm _ _ _ ?_;simp only [Tryz.ntmps121,Tryz.results121,go_sem,simprocAttr,Jqe])
 skip
 refine SWP.loop (fun i:Nat=>⟨Ba 43 [(0,.p (.sl (rowL v))),(1,.p (.int .i64 m)),(5,.p (.int .i64 i))],[]⟩) (fun i=>i≤v.length∧i≤m∧(v.take i).all Juj=true) (fun i=>v.length - i) 0 Jqb ⟨Nat.zero_le _,Nat.zero_le _,rfl⟩ ?_
 rintro i ⟨h1,h2,h3⟩
 by_cases hi:¬ i<v.length
 ·have c1:((i:Int)<(v.length:Int))=False:=eq_false (by omega)
  rw [List.take_of_length_le (by omega)] at h3
  rw [show Jse v m=true by unfold Jse;rw [h3,decide_eq_true (by omega)];rfl]
  (refine Ae hm _ _ _ ?_;simp only [go_sem,simprocAttr,Jqe,c1])
  skip
 ·have hi:=Decidable.not_not.1 hi
  have c1:((i:Int)<(v.length:Int))=True:=eq_true (by omega)
  obtain ⟨n,hn⟩:∃ n,v[i]? = some n:=⟨_,List.getElem?_eq_getElem hi⟩
  have hg:=Jtt hn
  have hfn:=hf n (List.mem_of_getElem? hn)
  obtain ⟨f1,f2,f3,f4,f5⟩:=hfn
  have w1:=wj1 (i:=i) (by omega)
  have hnot:Juj n=false→Jse v m=false:=fun h=>by
   unfold Jse
   rw [Bool.and_eq_false_iff]
   exact .inr (List.all_eq_false.2 ⟨n,List.mem_of_getElem? hn,by rw [h];simp⟩)
  by_cases him:(m:Int)≤(i:Int)
  ·have c2:=eq_true him
   rw [show Jse v m=false by unfold Jse;rw [decide_eq_false (by omega)];rfl]
   (refine Ae hm _ _ _ ?_;simp only [go_sem,simprocAttr,Jqe,c1,c2])
   skip
  ·have c2:=eq_false him
   (refine Ae hm _ _ _ ?_;simp only [go_sem,simprocAttr,Jqe,c1,c2,hg,w1])
   (repeat' (refine iteI (fun h=>?_) (fun h=>?_)))
   all_goals first
    | (
     refine ⟨i+1,⟨by omega,by omega,?_⟩,by omega,Jqb⟩
     rw [List.take_add_one,hn,List.all_append,h3]
     simp [Juj];omega)
    | (exact (hnot (by unfold Juj;simp;omega)).symm)
theorem d_FewT (v:List YRow) (m:Nat) (hm':m≤1000) (hv:v.length≤9223372036854775807) (hf:∀ n∈v,ERow n):Det cx 48 [.p (.sl (rowL v)),.p (.int .i64 m)] [] (.p (.bool (Jyv v m))) []:=by
 have hS:=Kc9 v m hm' hv hf
 unfold Jyv
 cases hs:Jse v m with
 | false =>
  rw [hs] at hS
  rw [Bool.false_and]
  (refine Jqa false [] Tryz.func48 ?_;refine Ae hm _ _ _ ?_;simp only [Tryz.ntmps48,Tryz.results48,go_sem,simprocAttr])
  (repeat' (first | ((refine Det.use (hS) ?_);simp only [go_sem,simprocAttr]) | fail))
 | true =>
  rw [hs] at hS
  rw [Bool.true_and]
  have hs':=hs
  unfold Jse at hs'
  rw [Bool.and_eq_true,decide_eq_true_eq,List.all_eq_true] at hs'
  have hG:=d_Good v (by omega) (fun n hn=>by
   have:=hs'.2 n hn
   simp only [Juj,Bool.and_eq_true,decide_eq_true_eq] at this
   exact ⟨by omega,by omega,⟨by omega,(hf n hn).e0,(hf n hn).e1⟩⟩) (fun n hn=>by
   have:=hs'.2 n hn
   simp only [Juj,Bool.and_eq_true,decide_eq_true_eq] at this
   omega)
  (refine Jqa false [] Tryz.func48 ?_;refine Ae hm _ _ _ ?_;simp only [Tryz.ntmps48,Tryz.results48,go_sem,simprocAttr])
  (repeat' (first | ((first | (refine Det.use (hS) ?_)|(refine Det.use (hG) ?_));simp only [go_sem,simprocAttr]) | fail))
end Go.LX
set_option maxRecDepth 100000
set_option maxHeartbeats 2000000
namespace Go.LX
open Go Go.RowKit Go.Proofs
attribute [local irreducible] Al SWP Bi
def num1 (c:UInt8):Tree:=.mk 3 [c] false 0 .nil
def Jyy (c d:UInt8):Tree:=.mk 5 [] false 0 (.cons [] (num1 c) (.cons [] (num1 d) .nil))
def sort1:RT:=.mk 7 [46] 0 Jrc (.cons [] (.mk 1 [] 8 Jrc .nil) .nil)
def any1:RT:=.mk 0 [] 0 Jrc .nil
theorem J1m {c:UInt8} (h:c=49∨c=50):okT (num1 c):=by
 unfold num1
 rw [okT]
 refine ⟨?_,⟨by simp,by simp [Forest.list],by simp⟩,by rw [okF];trivial⟩
 rcases h with rfl | rfl <;> decide
theorem J2p {c d:UInt8} (hc:c=49∨c=50) (hd:d=49∨d=50):okT (Jyy c d):=by
 unfold Jyy
 rw [okT]
 refine ⟨by simp [G3,Forest.len],⟨by simp [Forest.list],by intro p hp;simp only [Forest.list,List.mem_cons,List.not_mem_nil,or_false] at hp;rcases hp with rfl | rfl <;> rfl,by simp⟩,?_⟩
 rw [okF,okF,okF]
 exact ⟨J1m hc,J1m hd,trivial⟩
theorem J3m:Je [46]=([],0,0):=by decide +kernel
theorem J3h:okR sort1:=by
 unfold sort1
 rw [Jtm]
 refine ⟨?_,⟨?_,fun h=>by omega⟩,?_,?_⟩
 ·unfold Jq6
  rw [if_neg (by decide),if_neg (by decide),if_neg (by decide),if_neg (by decide),if_neg (by decide),if_neg (by decide),if_pos (by decide)]
  refine ⟨rfl,rfl,rfl,?_⟩
  unfold fldS
  rw [J3m]
  exact ⟨rfl,by simp⟩
 ·intro p hp
  simp only [RF.list,List.mem_cons,List.not_mem_nil,or_false] at hp
  subst hp
  exact ⟨by simp [RT.kind],fun _=>rfl,fun h=>by omega⟩
 ·intro _ p hp
  simp only [RF.list,List.head?_cons,Option.some.injEq] at hp
  subst hp
  rw [J3m]
  exact ⟨_,Jw0 _,rfl⟩
 ·rw [Jsb,Jtm]
  exact ⟨⟨by decide,Juc 1,fun h=>by omega,Jst⟩,Jst⟩
theorem Kac:okR any1:=by
 unfold any1
 rw [Jtm]
 exact ⟨by decide,Juc 0,fun h=>by omega,Jst⟩
theorem in_1:inTy sort1 (Jyy 49 50)=true:=by decide +kernel
theorem in_2:inTy sort1 (Jyy 50 49)=false:=by decide +kernel
theorem in_3:inTy any1 (num1 49)=true:=by decide +kernel
theorem key_1:keyV [46] (num1 49)=[⟨3,0,[],[49],false,0⟩]:=by decide +kernel
theorem Jr3:Det cx 16 [] [] (.p (.bool true)) []:=by
 have fit:∀ {t:Tree},okT t→(t.enc []).length≤1000000→(∀ n∈t.enc [],n.s.length≤1000∧n.name.length≤1000∧n.e=0)→VFit t:=fun h1 h2 h3 =>
  ⟨h1,fun n hn=>by obtain ⟨a,b,c⟩:=h3 n hn;exact ⟨by omega,by omega,by omega,by omega⟩,h2⟩
 have i1:=Ka5 2 sort1 (by decide) J3h (by decide) (by unfold SFit;decide) (by decide) (Jyy 49 50) (fit (J2p (.inl rfl) (.inr rfl)) (by decide) (by decide))
 have i2:=Ka5 2 sort1 (by decide) J3h (by decide) (by unfold SFit;decide) (by decide) (Jyy 50 49) (fit (J2p (.inr rfl) (.inl rfl)) (by decide) (by decide))
 have i3:=Ka5 1 any1 (by decide) Kac (by decide) (by unfold SFit;decide) (by decide) (num1 49) (fit (J1m (.inl rfl)) (by decide) (by decide))
 have k1:=Kco [46] (num1 49) (by decide) (by decide)
 rw [in_1] at i1
 rw [in_2] at i2
 rw [in_3] at i3
 rw [key_1] at k1
 have e1:rowL (sort1.enc [])=[[.int .i64 7,.int .i64 1,.str [],.str [46],.int .i64 0,.int .i64 0,.int .i64 0,.str [],.str [],.bool false,.int .i64 0],[.int .i64 1,.int .i64 0,.str [],.str [],.int .i64 8,.int .i64 0,.int .i64 0,.str [],.str [],.bool false,.int .i64 0]]:=by rfl
 have e2:rowL (any1.enc [])=[[.int .i64 0,.int .i64 0,.str [],.str [],.int .i64 0,.int .i64 0,.int .i64 0,.str [],.str [],.bool false,.int .i64 0]]:=by rfl
 have e3:∀ c d,valL ((Jyy c d).enc [])=[[.int .i64 5,.int .i64 2,.str [],.str [],.bool false,.int .i64 0],[.int .i64 3,.int .i64 0,.str [],.str [c],.bool false,.int .i64 0],[.int .i64 3,.int .i64 0,.str [],.str [d],.bool false,.int .i64 0]]:=fun _ _=>by rfl
 have e4:∀ c,valL ((num1 c).enc [])=[[.int .i64 3,.int .i64 0,.str [],.str [c],.bool false,.int .i64 0]]:=fun _=>by rfl
 have e5:valL [(⟨3,0,[],[49],false,0⟩:Node)]=[[.int .i64 3,.int .i64 0,.str [],.str [49],.bool false,.int .i64 0]]:=by rfl
 rw [e1,e3] at i1 i2
 rw [e2,e4] at i3
 rw [e4,e5] at k1
 (refine Jqa false [] Tryz.func16 ?_;refine Ae hm _ _ _ ?_;simp only [Tryz.ntmps16,Tryz.results16,go_sem,simprocAttr])
 (repeat' (first | ((first | (refine Det.use (i1) ?_)|(refine Det.use (i2) ?_)|(refine Det.use (i3) ?_)|(refine Det.use (k1) ?_));simp only [go_sem,simprocAttr]) | fail))
structure TyFit (v:List YRow):Prop where
 len:v.length≤140737488355328
 row:∀ n∈v,ERow n
theorem Kau (v:List YRow) (u:List Node) (hv:TyFit v) (hu:ValFit u):Det cx 15 [.p (.sl (rowL v)),.p (.sl (valL u))] [] (.p (.bool (Jyv v 60 && fewB u 60))) []:=by
 have h1:=d_FewT v 60 (by decide) (by have:=hv.len;omega) hv.row
 have h2:=Ln u 60 (by decide) (by have:=hu.len;omega) hu.node
 cases b1:Jyv v 60 with
 | false =>
  rw [b1] at h1
  rw [Bool.false_and]
  (refine Jqa false [] Tryz.func15 ?_;refine Ae hm _ _ _ ?_;simp only [Tryz.ntmps15,Tryz.results15,go_sem,simprocAttr])
  (repeat' (first | ((refine Det.use (h1) ?_);simp only [go_sem,simprocAttr]) | fail))
 | true =>
  rw [b1] at h1
  rw [Bool.true_and]
  (refine Jqa false [] Tryz.func15 ?_;refine Ae hm _ _ _ ?_;simp only [Tryz.ntmps15,Tryz.results15,go_sem,simprocAttr])
  (repeat' (first | ((first | (refine Det.use (h1) ?_)|(refine Det.use (h2) ?_));simp only [go_sem,simprocAttr]) | fail))
theorem J66 {v:List YRow} (h:Jyv v 60=true):∃ t:RT,okR t∧t.kind≠9∧v=t.enc []∧(t.enc []).length≤60∧SFit t:=by
 unfold Jyv Jvf Jse at h
 simp only [Bool.and_eq_true,decide_eq_true_eq,List.all_eq_true] at h
 obtain ⟨⟨h1,h2⟩,h3,_⟩:=h
 obtain ⟨t,a,b,rfl⟩:=Jtg.1 h3
 refine ⟨t,a,b,rfl,h1,fun r hr=>?_⟩
 have:=h2 r hr
 simp only [Juj,Bool.and_eq_true,decide_eq_true_eq] at this
 omega
theorem Kb0 (v:List YRow) (u:List Node) (hv:TyFit v) (hu:ValFit u):Det cx 3 [.p (.sl (rowL v)),.p (.sl (valL u))] [] (.p (.bool true)) []:=by
 have hG:=Kau v u hv hu
 cases b1:Jyv v 60 with
 | false =>
  rw [b1,Bool.false_and] at hG
  (refine Jqa false [] Tryz.func3 ?_;refine Ae hm _ _ _ ?_;simp only [Tryz.ntmps3,Tryz.results3,go_sem,simprocAttr])
  (repeat' (first | ((first | (refine Det.use (hG) ?_)|(refine Det.use (Jr3) ?_));simp only [go_sem,simprocAttr]) | fail))
 | true =>
  cases b2:fewB u 60 with
  | false =>
   rw [b1,b2] at hG
   (refine Jqa false [] Tryz.func3 ?_;refine Ae hm _ _ _ ?_;simp only [Tryz.ntmps3,Tryz.results3,go_sem,simprocAttr])
   (repeat' (first | ((first | (refine Det.use (hG) ?_)|(refine Det.use (Jr3) ?_));simp only [go_sem,simprocAttr]) | fail))
  | true =>
   rw [b1,b2] at hG
   obtain ⟨t,ht,ht9,rfl,htl,hts⟩:=J66 b1
   obtain ⟨x,hx,rfl,hxl,hxf⟩:=Fw hu b2
   have hV:VFit x:=⟨hx,hxf,by omega⟩
   have hI:=Ka5 60 t htl ht ht9 hts (by omega) x hV
   have hR:=Kcx 60 t htl ht ht9 hts (by omega) x hV
   (refine Jqa false [] Tryz.func3 ?_;refine Ae hm _ _ _ ?_;simp only [Tryz.ntmps3,Tryz.results3,go_sem,simprocAttr])
   (repeat' (first | ((first | (refine Det.use (hG) ?_)|(refine Det.use (Jr3) ?_)|(refine Det.use (hI) ?_)|(refine Det.use (hR) ?_));simp only [go_sem,simprocAttr]) | fail))
end Go.LX
set_option maxRecDepth 100000
namespace Go.LX
open Go Go.Proofs Go.RowKit Go.ChangeShapes Go.WideShapes Go.ChangeAt Go.Lib
open Go.Proofs.YtpaiiekgdgjjnaaGreatDoor
theorem cTy:Tryz.prog.cellsOf 31=11:=by kernel_rfl
theorem bTy:0<Tryz.prog.bytesOf 31:=by decide +kernel
def YRow.vals (r:YRow):List Value:=[.int .i64 r.kind,.int .i64 r.many,.string ⟨⟨r.name⟩⟩,.string ⟨⟨r.s⟩⟩,.int .i64 r.n,.int .i64 r.c.kind,.int .i64 r.c.many,.string ⟨⟨r.c.name⟩⟩,.string ⟨⟨r.c.s⟩⟩,.bool r.c.neg,.int .i64 r.c.e]
theorem eachTy {H:Type} {enc:TypeId×Value→H} {w:World} (fuel:Nat) (cs:List Value) (y:DataW H×List MemPlace) (h:DataW.trod enc Tryz.prog w 0 (fun _=>true) true fuel 31 cs=some y) (hz:∀ n∈y.1.weights Tryz.prog 31,n≤reachBytes) :
  ∃ x:YRow,ERow x∧cs=x.vals:=by
 obtain ⟨xs,n,_,rfl,hl,hlen,hf⟩:=DataW.trod_struct Tryz.underlying31 h
 rw [cTy] at hl
 match xs,hlen,cs,hl with
 | [y0,y1,y2,y3,y4,y5],_,[a0,a1,a2,a3,a4,a5,a6,a7,a8,a9,a10],_ =>
  have g0:=hf 0 _ rfl
  have g1:=hf 1 _ rfl
  have g2:=hf 2 _ rfl
  have g3:=hf 3 _ rfl
  have g4:=hf 4 _ rfl
  have g5:=hf 5 _ rfl
  simp only [cBool,cStr,cInt,J9t,List.drop_zero,List.drop_succ_cons,List.take_succ_cons,List.take_zero,List.getElem?_cons_zero,List.getElem?_cons_succ] at g0 g1 g2 g3 g4 g5
  obtain ⟨x0,e0,rfl,_⟩:=DataW.trod_int Tryz.underlying3 g0
  obtain ⟨x1,e1,rfl,_⟩:=DataW.trod_int Tryz.underlying3 g1
  obtain ⟨x2,e2,rfl,z2⟩:=DataW.trod_string Tryz.underlying9 g2
  obtain ⟨x3,e3,rfl,z3⟩:=DataW.trod_string Tryz.underlying9 g3
  obtain ⟨x4,e4,rfl,_⟩:=DataW.trod_int Tryz.underlying3 g4
  obtain ⟨c,hc,e5⟩:=Jly _ _ _ g5 (fun n hn=>hz n (by simp [DataW.weights,DataW.weightsEach,Tryz.underlying31,hn]))
  cases e0;cases e1;cases e2;cases e3;cases e4;cases e5
  have hm:maxLen=9223372036854775807:=by decide
  have s2:=size_list x2
  have s3:=size_list x3
  refine ⟨⟨x0,x1,x2.data.toList,x3.data.toList,x4,c⟩,⟨?_,?_,hc.s,hc.e0,hc.e1⟩,?_⟩
  ·show x3.data.toList.length≤_
   omega
  ·show x2.data.toList.length≤_
   omega
  ·simp only [YRow.vals,Jc3]
theorem ty_rep (w:World) (Im:Nat→Prop) (x:YRow) (j:Nat) (p:PV) (h:x.cells[j]? = some p):PRep w Im (x.vals.getD j undef) p:=by
 match j,h with
 | 0,h=>cases h;exact PRep.int _ _
 | 1,h=>cases h;exact PRep.int _ _
 | 2,h=>cases h;exact PRep.str _
 | 3,h=>cases h;exact PRep.str _
 | 4,h=>cases h;exact PRep.int _ _
 | 5,h=>cases h;exact PRep.int _ _
 | 6,h=>cases h;exact PRep.int _ _
 | 7,h=>cases h;exact PRep.str _
 | 8,h=>cases h;exact PRep.str _
 | 9,h=>cases h;exact PRep.bool _
 | 10,h=>cases h;exact PRep.int _ _
 | j+11,h=>simp [YRow.cells] at h
theorem cellTy {H:Type} {enc:TypeId×Value→H} {w:World} {b:Nat} {v:Value} (hok:Cell.okWide Tryz.prog w .any b 23 v) {fuel:Nat} {x:DataW H×List MemPlace} (h:DataW.trod enc Tryz.prog w 0 (fun _=>true) true fuel 23 [v]=some x) (hz:∀ n∈x.1.weights Tryz.prog 23,n≤reachBytes) :
  ∃ p:List YRow,TyFit p∧PRep w (Ja w) v (.sl (rowL p)):=by
 obtain ⟨p,h1,h2,h3⟩:=Xx YRow.vals YRow.cells ERow Tryz.underlying23 cTy bTy (fun _=>rfl) (fun _=>rfl) (fun x p hp=>by simp [YRow.cells] at hp;rcases hp with rfl | rfl | rfl | rfl | rfl | rfl | rfl | rfl | rfl | rfl | rfl <;> rfl) (ty_rep w) eachTy hok h hz
 exact ⟨p,⟨h1,h2⟩,h3⟩
theorem Kb2 {H:Type} {enc:TypeId×Value→H} {w:World} {b:Nat} {v:Value} {d:DataW H} {q:List MemPlace} {ts:List TypeId} {ds:List (DataW H)} (hok:Value.okWide Tryz.prog w .any b 23 v) (h:DataW.Trod enc Tryz.prog w 0 (fun _=>true) true 23 v d q)
  (hz:(DataW.weightsEach Tryz.prog ts ds).all (· ≤ reachBytes)=true) {j:Nat} (h1:ts[j]? = some 23) (h2:ds[j]? = some d):∃ p:List YRow,TyFit p∧PRep w (Ja w) v (.sl (rowL p)):=by
 simp only [Value.okWide,Tryz.underlying23] at hok
 obtain ⟨fuel,h⟩:=h
 rw [Jkh Tryz.underlying23 hok] at h
 exact cellTy hok h (J0 hz h1 h2)
theorem Kbt {W:World} (h:laidMetH Tryz.prog Rows.membTellsRow.laid W):QuoteG W (Ja W):=Jdp h
end Go.LX
