/- Types, the laws: parts. -/
import Derived.Test.YtgfggbndbceppaaGreatDoorLxZB
import Derived.Test.YtgfggbndbceppaaGreatDoorLxW
set_option linter.unusedSimpArgs false
set_option linter.unusedVariables false
set_option linter.unusedSectionVars false
set_option linter.unnecessarySimpa false
set_option maxRecDepth 100000
set_option maxHeartbeats 2000000
namespace Go.LX
open Go Go.RowKit Go.Proofs
attribute [local irreducible] Al SWP Bi
attribute [go_sem] Tryz.ntmps10 Tryz.results10
theorem J7w {t:RT} (h:okR t) (h9:t.kind≠9):Jrr (t.enc [])=true:=Jr7.2 ⟨t,h,h9,rfl⟩
theorem J42 (l:List RKT):∀ i,i≤l.length→Jum (l.map (·.1)) (l.map fun p=>p.2.enc []) i=(rfL (l.take i)).enc
 | 0,_=>by rw [List.take_zero];exact Jq5.symm
 | i+1,h=>by
  obtain ⟨p,hp⟩:∃ p,l[i]? = some p:=⟨_,List.getElem?_eq_getElem omg⟩
  rw [Jum,J42 l i omg,Jxi,Jxi,List.take_add_one,hp,List.flatMap_append,Juy,if_pos (by simp;omega)];simp [List.getD_eq_getElem?_getD,hp,Kaj]
theorem Kef (k m:Int) (s:List UInt8) (n:Int) (c:Node) (l:List RKT):Juz ⟨k,m,[],s,n,c⟩ (l.map (·.1)) (l.map fun p=>p.2.enc [])=(RT.mk k s n c (rfL l)).enc []:=by
 rw [Jqh,J4d,Juz,List.length_map,J42 l l.length (Nat.le_refl _),List.take_length]
theorem Jz3:∀ f:RF,rfL f.list=f
 | .nil=>rfl
 | .cons nm t r=>by rw [RF.list,rfL,Jz3 r]
theorem J00 {p:Nat→Bool}:∀ (n i:Nat),allF p n i=true ↔ ∀ j,i≤j→j<i+n→p j=true
 | 0,i=>by simp only [allF];exact ⟨fun _ j h1 h2=>by omega,fun _=>trivial⟩
 | n+1,i=>by
  rw [allF,Bool.and_eq_true,J00 n (i+1)];constructor
  ·rintro ⟨h1,h2⟩ j h3 h4;by_cases e:j=i
   ·rw [e];exact h1
   ·exact h2 j omg omg
  ·exact fun h=>⟨h i (Nat.le_refl _) omg,fun j h3 h4=>h j omg omg⟩
theorem Kaa {A B w:List YRow} {r r':YRow} (hk:r'.kind=r.kind) (hm:r'.many=r.many) (hn:r'.n=r.n) {j:Nat} (hj:j<w.length+1) (hb:∀ q,(r' :: w)[j]? = some q→q.kind=1→j+q.many.toNat<w.length+1):Jta (r' :: w) j=Jta (A ++ (r :: w ++ B)) (A.length+j):=by
 have hat:∀ m,j+m<w.length+1→Jq7 (r' :: w) j m=Jq7 (A ++ (r :: w ++ B)) (A.length+j) m:=by
  intro m h;unfold Jq7;congr 1;have e:(A ++ (r :: w ++ B)).drop (A.length+j+1)=(r :: w ++ B).drop (j+1):=by rw [Nat.add_assoc,← List.drop_drop,List.drop_left]
  rw [e,List.cons_append,List.drop_succ_cons,List.drop_succ_cons,List.drop_append_of_le_length omg,List.take_append_of_le_length (by rw [List.length_drop];omega)]
 unfold Jta;have hv:(A ++ (r :: w ++ B))[A.length+j]? = (r :: w)[j]?:=by
  rw [List.getElem?_append_right omg,Nat.add_sub_cancel_left,List.getElem?_append_left (by simp;omega)]
 rw [hv];cases j with
 | zero =>
  have hb0:=hb r' rfl;simp only [List.getElem?_cons_zero];by_cases h1:r.kind=1
  ·rw [if_pos h1,if_pos (by rw [hk];exact h1),hat _ (hb0 (by rw [hk];exact h1)),hm,hn]
  ·rw [if_neg h1,if_neg (by rw [hk];exact h1)]
 | succ j =>
  simp only [List.getElem?_cons_succ] at hb ⊢;cases hq:w[j]? with
  | none=>rfl
  | some q =>
   simp only;by_cases h1:q.kind=1
   ·rw [if_pos h1,if_pos h1,hat _ (hb q hq h1)]
   ·rw [if_neg h1,if_neg h1]
theorem Jx5:∀ {f:RF} {p:RKT},p∈f.list→∃ A B,f.enc=A ++ (p.2.enc p.1 ++ B)
 | .nil,p,h=>by simp [RF.list] at h
 | .cons nm t r,p,h=>by
  rw [Jqe];rcases List.mem_cons.1 (show p∈(nm,t) :: r.list from h) with rfl | h
  ·exact ⟨[],r.enc,rfl⟩
  ·obtain ⟨A,B,e⟩:=Jx5 h;exact ⟨t.enc nm ++ A,B,by rw [e,List.append_assoc]⟩
theorem J1j {k:Int} {s:List UInt8} {g:Int} {c:Node} {kids:RF} (ho:okR (.mk k s g c kids)) (hk:k≠1) {p:RKT} (hp:p∈kids.list):okR p.2∧p.2.kind≠9:=by
 obtain ⟨_,h2,_,h4⟩:=Jr5.1 ho;exact ⟨Jst.1 h4 p hp,fun h=>hk ((h2.1 p hp).1.1 h)⟩
theorem Kbp {k:Int} {s:List UInt8} {g:Int} {c:Node} {kids:RF} (ho:okR (.mk k s g c kids)) (hk:k≠1) {p:RKT} (hp:p∈kids.list) (hg:Jss ((RT.mk k s g c kids).enc [])=true):Jss (p.2.enc [])=true:=by
 obtain ⟨hp1,hp9⟩:=J1j ho hk hp;unfold Jss at hg ⊢;rw [Bool.and_eq_true] at hg;rw [Jr7.2 ⟨p.2,hp1,hp9,rfl⟩,Bool.true_and];have h:=(J00 _ _).1 hg.2;refine (J00 _ _).2 fun j _ hj=>?_
 obtain ⟨A,B,e⟩:=Jx5 hp;obtain ⟨nm,⟨k',s',n',c',kids'⟩⟩:=p;simp only at e hj hp1 hp9 ⊢;rw [Jqh] at hj;simp only [List.length_cons,Nat.zero_add] at hj;have hv:(RT.mk k s g c kids).enc []=(⟨k,kids.len,[],s,g,c⟩ :: A) ++ (⟨k',kids'.len,nm,s',n',c'⟩ :: kids'.enc ++ B):=by
  rw [Jqh,e,Jqh];rfl
 rw [hv] at h;rw [Jqh,Kaa (A:=⟨k,kids.len,[],s,g,c⟩ :: A) (B:=B) (w:=kids'.enc) (r:=⟨k',kids'.len,nm,s',n',c'⟩) (r':=⟨k',kids'.len,[],s',n',c'⟩) rfl rfl rfl hj ?_]
 ·exact h _ (Nat.zero_le _) (by simp;omega)
 ·intro q hq h1;have hF:(RF.cons [] (.mk k' s' n' c' kids') .nil).enc=⟨k',kids'.len,[],s',n',c'⟩ :: kids'.enc:=by rw [Jqe,Jq5,List.append_nil,Jqh]
  have:=Jyk _ (.cons [] (.mk k' s' n' c' kids') .nil) (Nat.le_refl _) (by rw [Jrv];exact ⟨hp1,Jsj⟩) j q (by rw [hF];exact hq) h1;obtain ⟨m,a1,a2,_⟩:=this;rw [hF,List.length_cons] at a2;rw [a1,Int.toNat_natCast];exact a2
theorem Ked {v:List YRow} (h:Jrr v=false):Jss v=false:=by unfold Jss;rw [h];rfl
theorem Jza (l:List RKT):Jra l=Jqy (l.map fun p=>p.2.enc []):=by unfold Jra Jqy;rw [List.map_map];rfl
theorem J5a (l:List RKT):Jr6 l=Jq1 (l.map (·.1)):=by unfold Jr6 Jq1;rw [List.map_map];rfl
theorem Ka2 {kids:RF} {p:RKT} (hp:p∈kids.list) (h:∀ r∈kids.enc,Jtq r):∀ r∈p.2.enc [],Jtq r:=by
 obtain ⟨A,B,e⟩:=Jx5 hp;obtain ⟨nm,⟨k,s,n,c,kk⟩⟩:=p;simp only at e ⊢;rw [Jqh] at e ⊢;rw [e] at h;intro r hr;rcases List.mem_cons.1 hr with rfl | hr
 ·have:=h ⟨k,kk.len,nm,s,n,c⟩ sm;exact ⟨this.1,by simp,this.2.2⟩
 ·exact h r (by simp [hr])
theorem Kbl (v:List YRow) (hv:FiFit v):Det cx 10 [.p (.sl (rowL v))] [] (.p (.bool true)) []:=by
 have hS:=Jx1 v 40 de (by have:=hv.len;omega) hv.row;cases b1:Jsq v 40 with
 | false =>
  rw [b1] at hS;(refine bgo Tryz.func10 ?_;simp only [go_sem,simprocAttr]);(repeat' (first | ((first | (refine Jqa (hS) ?_)|(refine Jqa (Jqx) ?_));simp only [go_sem,simprocAttr]) | fail))
 | true =>
  rw [b1] at hS;obtain ⟨hl40,hrow⟩:=Jtp hv b1;have hR:=Jsm v omg (Jsb hrow);have hG:=Jzo v omg (Jsb hrow) (Jwt hrow);cases b2:Jrr v with
  | false =>
   rw [b2] at hR;rw [Ked b2] at hG;(refine bgo Tryz.func10 ?_;simp only [go_sem,simprocAttr]);(repeat' (first | ((first | (refine Jqa (hS) ?_)|(refine Jqa (hR) ?_)|(refine Jqa (hG) ?_)|(refine Jqa (Jqx) ?_));simp only [go_sem,simprocAttr]) | fail))
  | true =>
   rw [b2] at hR;obtain ⟨t,ho,h9,rfl,htl,hf,_⟩:=Jud hv b1 b2;obtain ⟨k,s,g,c,kids⟩:=t;have hkl:kids.enc.length≤39:=by rw [Jqh,List.length_cons] at htl;omega
   have hll:=Jqo kids;have hle:=Jqs kids;have hg0:(rowL ((RT.mk k s g c kids).enc []))[0]? = some [.int .i64 k,.int .i64 kids.len,.str [],.str s,.int .i64 g,.int .i64 c.kind,.int .i64 c.many,.str c.name,.str c.s,.bool c.neg,.int .i64 c.e]:=by rw [Jqh];rfl
   obtain ⟨G,hGG⟩:∃ G,G=Jss ((RT.mk k s g c kids).enc []):=⟨_,rfl⟩
   rw [← hGG] at hG;by_cases hk:k=1
   ·subst hk;have hlf:=J3u ho;have hA1:=Jxm [] s g c kids omg hlf;have hQ1:=J3k [] s g c kids omg;have hal:(Jqf kids.list).length=kids.len:=by unfold Jqf;rw [List.length_map,hll]
    generalize Jqf kids.list=al at *
    generalize rowL ((RT.mk 1 s g c kids).enc [])=rows at *
    clear hf ho hrow hv b1 b2 hGG;(refine bgo Tryz.func10 ?_;simp only [go_sem,simprocAttr]);(repeat' (first | ((first | (refine Jqa (hS) ?_)|(refine Jqa (hR) ?_)|(refine Jqa (hG) ?_)|(refine Jqa (hQ1) ?_));simp only [go_sem,simprocAttr]) | fail));refine SWP.loop (fun i:Nat=>⟨Ba 85 [(0,.p (.sl rows)),(3,.p (.sl [])),(4,.p (.bool G)),(5,.p (.int .i64 0))],[]⟩) (fun i=>True) (fun i=>0) 0 Jqb trivial ?_;rintro i -
    (refine lws ?_;simp only [go_sem,simprocAttr,hg0]);(repeat' (first | ((first | (refine Jqp ?_)|(refine Jqg (hA1) ?_)|(refine Jqg (Jqx) ?_));simp only [go_sem,simprocAttr,hg0,hal,Jqm]) | fail))
   ·have hA1:=J10 [] k hk s g c kids;have hQ1:=J0n [] k s g c kids omg hk;have e1:=eq_false hk;have hsm:=J38 ((RT.mk k s g c kids).enc []) ((RT.mk k s g c kids).enc []) omg omg;rw [decide_eq_true rfl] at hsm;obtain ⟨ns,hN,hM⟩:∃ ns,Det cx 46 [.p (.sl (rowL ((RT.mk k s g c kids).enc [])))] [] (.p (.sl (Jq1 ns))) []∧Det cx 42 [.p (.agg [.int .i64 k,.int .i64 kids.len,.str [],.str s,.int .i64 g,.int .i64 c.kind,.int .i64 c.many,.str c.name,.str c.s,.bool c.neg,.int .i64 c.e]),.p (.sl (Jq1 ns)),.p (.sl (Jra kids.list))] [] (.p (.sl (rowL ((RT.mk k s g c kids).enc [])))) []:=by
     have q1:(kids.list.map fun p=>p.2.enc []).length≤10000:=by rw [List.length_map];omega
     have q2:∀ v∈kids.list.map fun p=>p.2.enc [],v≠[]:=by
      intro v hv e;obtain ⟨p,_,rfl⟩:=List.mem_map.1 hv;have:=Jrs p.2 [];rw [e] at this;simp at this
     have q3:∀ v∈kids.list.map fun p=>p.2.enc [],v.length≤900000:=by
      intro v hv;obtain ⟨p,hp,rfl⟩:=List.mem_map.1 hv;have:=Jxv hp;omega
     by_cases h2:k=2
     ·subst h2;have hN:=Jvz [] s g c kids omg;rw [J5a] at hN;have hM:=J15 ⟨2,kids.len,[],s,g,c⟩ (kids.list.map (·.1)) (kids.list.map fun p=>p.2.enc []) q1 (by rw [List.length_map];omega) q2 q3 (by rw [List.length_map,J42 _ _ (Nat.le_refl _),List.take_length,Jz3];omega);rw [Kef,Jz3,← Jza] at hM;exact ⟨_,hN,hM⟩
     ·have hN:=Jw4 [] k h2 s g c kids;have hnn:∀ p∈kids.list,p.1=[]:=fun p hp=>((Jr5.1 ho).2.1.1 p hp).2.1 h2
      have hM:=J15 ⟨k,kids.len,[],s,g,c⟩ [] (kids.list.map fun p=>p.2.enc []) q1 sm q2 q3 (by rw [List.length_map,J0h hnn _ (Nat.le_refl _),List.take_length,Jz3];omega);rw [J0g _ _ _ _ _ hnn,Jz3,← Jza] at hM;exact ⟨[],hN,hM⟩
    have hpr:∀ p∈kids.list,Det cx 45 [.p (.sl (rowL (p.2.enc [])))] [] (.p (.bool true)) []∧Det cx 44 [.p (.sl (rowL (p.2.enc [])))] [] (.p (.bool (Jss (p.2.enc [])))) []∧(G=true→Jss (p.2.enc [])=true):=by
     intro p hp;obtain ⟨a,b⟩:=J1j ho hk hp;have hsh:=Ka2 hp fun r hr=>hrow r (by rw [Jqh];exact List.mem_cons_of_mem _ hr)
     have hpl:=Jxv hp;have h1:=Jz5 (p.2.enc []) omg (Jsb hsh);rw [J7w a b] at h1;exact ⟨h1,Jzo (p.2.enc []) omg (Jsb hsh) (Jwt hsh),fun h=>Kbp ho hk hp (by rw [← hGG];exact h)⟩
    generalize rowL ((RT.mk k s g c kids).enc [])=rows at *
    clear hf ho hrow hv b1 b2 hGG;(refine bgo Tryz.func10 ?_;simp only [go_sem,simprocAttr]);(repeat' (first | ((first | (refine Jqa (hS) ?_)|(refine Jqa (hR) ?_)|(refine Jqa (hG) ?_)|(refine Jqa (hQ1) ?_));simp only [go_sem,simprocAttr]) | fail));refine SWP.loop (fun i:Nat=>⟨Ba 85 [(0,.p (.sl rows)),(3,.p (.sl (Jra kids.list))),(4,.p (.bool G)),(5,.p (.int .i64 i))],[]⟩) (fun i=>i≤kids.len) (fun i=>kids.len - i) 0 Jqb (Nat.zero_le _) ?_;rintro i hi;by_cases hlt:i<kids.len
    ·have c1:((i:Int)<(kids.len:Int))=True:=eq_true omg;obtain ⟨p,hq⟩:∃ p,kids.list[i]? = some p:=⟨_,List.getElem?_eq_getElem omg⟩
     have hg:=Jui hq;obtain ⟨p1,p2,p3⟩:=hpr p (List.mem_of_getElem? hq);have w1:=wi1 (i:=i) omg;generalize Jss (p.2.enc [])=b at p2 p3;cases G with
     | true =>
      rw [p3 rfl] at p2;(refine lws ?_;simp only [go_sem,simprocAttr,c1,hg,Jq3,hll]);(repeat' (first | ((first | (refine Jqa (p1) ?_)|(refine Jqa (p2) ?_));simp only [go_sem,simprocAttr,hg,w1]) | fail));exact ⟨i+1,by omega,by omega,Jqb⟩
     | false =>
      (refine lws ?_;simp only [go_sem,simprocAttr,c1,hg,Jq3,hll]);(repeat' (first | ((refine Jqa (p1) ?_);simp only [go_sem,simprocAttr,w1]) | fail));exact ⟨i+1,by omega,by omega,Jqb⟩
    ·obtain rfl:i=kids.len:=by omega
     have c1:((kids.len:Int)<(kids.len:Int))=False:=eq_false omg;(refine lws ?_;simp only [go_sem,simprocAttr,hg0,e1,c1,Jq3,hll]);(repeat' (first | ((first | (refine Jqp ?_)|(refine Jqg (hN) ?_)|(refine Jqg (hM) ?_)|(refine Jqg (hsm) ?_)|(refine Jqg (hA1) ?_)|(refine Jqg (Jqx) ?_));simp only [go_sem,simprocAttr,hg0]) | fail))
end Go.LX
