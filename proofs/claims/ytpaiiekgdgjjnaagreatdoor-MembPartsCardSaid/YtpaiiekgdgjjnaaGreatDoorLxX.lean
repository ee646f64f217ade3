/- Types, the document's answer: names, atoms. -/
import Derived.Test.YtpaiiekgdgjjnaaGreatDoorLxW
set_option linter.unusedSimpArgs false
set_option linter.unusedVariables false
set_option linter.unusedSectionVars false
set_option linter.unnecessarySimpa false
set_option maxRecDepth 100000
set_option maxHeartbeats 2000000
namespace Go.LX
open Go Go.RowKit Go.Proofs
attribute [local irreducible] Al SWP Bi
def J47 (l:List (List UInt8×RT)):List (List PV):=l.map fun p=>[.str p.1]
@[simp] theorem tnameL_nil:J47 []=[]:=rfl
theorem Kap (l:List (List UInt8×RT)):(J47 l).length=l.length:=by simp [J47]
theorem Kbu {l:List (List UInt8×RT)} {k:Nat} {p:List UInt8×RT} (h:l[k]? = some p):J47 (l.take (k+1))=J47 (l.take k) ++ [[.str p.1]]:=by
 rw [List.take_add_one,h]
 simp [J47]
theorem Kbs (nm:List UInt8) (s:List UInt8) (g:Int) (e:Node) (kids:RF) (hv:kids.enc.length≤999999):Det cx 146 [.p (.sl (rowL ((RT.mk 2 s g e kids).enc nm)))] [] (.p (.sl (J47 kids.list))) []:=by
 have hl:=RF.len_le kids
 have hkl:=RF.list_len kids
 generalize hvv:(RT.mk 2 s g e kids).enc nm=v
 have h0:v.drop 0=⟨2,kids.len,nm,s,g,e⟩ :: kids.enc:=by rw [← hvv,Jqk];rfl
 have hg0:=Jru h0
 rw [Jqy] at hg0
 have hvl:v.length=kids.enc.length+1:=by rw [← hvv,Jqk];rfl
 (refine Jqa false [] Tryz.func146 ?_;refine Ae hm _ _ _ ?_;simp only [Tryz.ntmps146,Tryz.results146,go_sem,simprocAttr,hg0])
 skip
 refine SWP.of_le (B1 [(6,29)] _ (by simp)) ?_
 simp only [go_sem,simprocAttr]
 refine SWP.loop (fun x:Nat×Nat×RF=>⟨Ba 34 [(0,.p (.sl (rowL v))),(3,.own 29 0 x.1),(4,.p (.int .i64 x.2.1)),(5,.p (.int .i64 x.1))],[(29,.row 9 1 (J47 (kids.list.take x.1)))]⟩) (fun x=>x.1+x.2.2.len=kids.len∧v.drop x.2.1=x.2.2.enc∧x.2.1+x.2.2.enc.length=v.length∧kids.list.drop x.1=x.2.2.list) (fun x=>x.2.2.enc.length) (0,1,kids) Jqb ⟨by simp,by rw [← hvv,Jqk];rfl,by simp only;omega,rfl⟩ ?_
 rintro ⟨k,j,F⟩ ⟨h1,h2,h3,h4⟩
 simp only at h1 h2 h3 h4 ⊢
 match F,h1,h2,h3,h4 with
 | .nil,h1,h2,h3,h4 =>
  simp only [RF.len] at h1
  have hkk:k=kids.len:=by omega
  subst hkk
  have hpl:(kids.len≤(J47 (kids.list.take kids.len)).length)=True:=eq_true (by rw [Kap,List.length_take];omega)
  have htk:(J47 (kids.list.take kids.len)).take kids.len=J47 kids.list:=by
   rw [List.take_of_length_le (by rw [Kap,List.length_take];omega),List.take_of_length_le (by omega)]
  have c1:((kids.len:Int)<(kids.len:Int))=False:=eq_false (by omega)
  (refine Ae hm _ _ _ ?_;simp only [go_sem,simprocAttr,hg0,hpl,htk,c1])
  skip
 | .cons nm' t' r,h1,h2,h3,h4 =>
  rw [Jrq] at h1
  rw [Jqf] at h2 h3
  rw [List.length_append] at h3
  have hkk:kids.list[k]? = some (nm',t'):=by
   have:=congrArg (·[0]?) h4
   simpa [RF.list] using this
  have hpk:=Kbu hkk
  have hpl:(J47 (kids.list.take k)).length=k:=by rw [Kap,List.length_take];omega
  obtain ⟨k',n',s',g',e',hga⟩:=J0w (v:=v) (j:=j) (nm:=nm') (t:=t') (b:=r.enc) h2
  have c1:((k:Int)<(kids.len:Int))=True:=eq_true (by omega)
  (refine Ae hm _ _ _ ?_;simp only [go_sem,simprocAttr,hg0,wj1 (i:=k) (by omega),hga,hpl,c1])
  refine ⟨by simp,by omega,by omega,?_⟩
  (repeat' (first | ((refine Det.use (J1b v j nm' t' r.enc (by omega) h2) ?_);simp only [go_sem,simprocAttr,wj1 (i:=k) (by omega)]) | fail))
  refine ⟨(k+1,j+(t'.enc nm').length,r),⟨by simp only;omega,by simp only;rw [← List.drop_drop,h2,List.drop_left],by simp only;omega,by simp only;rw [← List.drop_drop,h4];rfl⟩,by have:=Jr9 t' nm';simp only [Jqf,List.length_append];omega,?_⟩
  simp only
  rw [hpk]
  exact Jqb
theorem Kbf (nm:List UInt8) (s:List UInt8) (g:Int) (e:Node) (kids:RF) (hv:kids.enc.length≤999999) (hk:J0b kids.list):Det cx 145 [.p (.sl (rowL ((RT.mk 1 s g e kids).enc nm))),.p (.int .i64 0)] [] (.p (.sl (Jq3 (Jqx kids.list)))) []:=by
 have hll:=RF.list_len kids
 have hel:=Jzb hk
 generalize hvv:(RT.mk 1 s g e kids).enc nm=v
 have h0:v.drop 0=⟨1,kids.len,nm,s,g,e⟩ :: kids.enc:=by rw [← hvv,Jqk];rfl
 have hg0:=Jru h0
 rw [Jqy] at hg0
 have hal:(Jqx kids.list).length=kids.len:=by simp [Jqx,hll]
 have w0:IntKind.i64.wrap 1=1:=by decide
 (refine Jqa false [] Tryz.func145 ?_;refine Ae hm _ _ _ ?_;simp only [Tryz.ntmps145,Tryz.results145,go_sem,simprocAttr,hg0,w0])
 skip
 refine SWP.of_le (B1 [(7,42)] _ (by simp)) ?_
 simp only [go_sem,simprocAttr]
 refine SWP.loop (fun i:Nat=>⟨Ba 44 [(0,.p (.sl (rowL v))),(1,.p (.int .i64 0)),(5,.own 42 0 i),(6,.p (.int .i64 (i+1:Nat)))],[(42,.row 118 7 (Jq3 ((Jqx kids.list).take i)))]⟩) (fun i=>i≤kids.len) (fun i=>kids.len - i) 0 (by rw [show Jq3 (List.take 0 (Jqx kids.list))=[] from rfl];exact Jqb) (Nat.zero_le _) ?_
 rintro i hi
 by_cases hlt:¬ i<kids.len
 ·have hi2:i=kids.len:=by omega
  subst hi2
  have c1:(((kids.len+1:Nat):Int)≤(kids.len:Int))=False:=eq_false (by omega)
  have hpl:(kids.len≤(Jqx kids.list).length)=True:=eq_true (by omega)
  have ht1:(Jqx kids.list).take kids.len=Jqx kids.list:=List.take_of_length_le (by omega)
  have ht2:(Jq3 (Jqx kids.list)).take kids.len=Jq3 (Jqx kids.list):=List.take_of_length_le (by rw [Jqn];omega)
  have w3:IntKind.i64.wrap (0+(kids.len:Int))=(kids.len:Int):=by rw [Aa (by omega) (by omega)];omega
  (refine Ae hm _ _ _ ?_;simp only [go_sem,simprocAttr,hg0,c1,w3,hpl,ht1,ht2,Jqn])
  skip
 ·have hlt:=Decidable.not_not.1 hlt
  obtain ⟨p,hp⟩:∃ p,kids.list[i]? = some p:=⟨_,List.getElem?_eq_getElem (by omega)⟩
  have hgi:=Kca (v:=v) (i:=i+1) (by rw [← hvv,Jqk,List.getElem?_cons_succ];exact Jzh hk hp)
  rw [Jqy] at hgi
  have hga:(Jqx kids.list)[i]? = some (p.2.n,p.2.c):=by simp [Jqx,hp]
  have htk:=Jyn hga
  have hpl:(Jq3 ((Jqx kids.list).take i)).length=i:=by rw [Jqn,List.length_take];omega
  have c1:(((i+1:Nat):Int)≤(kids.len:Int))=True:=eq_true (by omega)
  have w3:IntKind.i64.wrap (0+(kids.len:Int))=(kids.len:Int):=by rw [Aa (by omega) (by omega)];omega
  (refine Ae hm _ _ _ ?_;simp only [go_sem,simprocAttr,hg0,c1,w3,wj1 (i:=i+1) (by omega)])
  skip
  refine J2z 12 [1,2,3,4,5,6,7,8,9,10,11] (.node 0 (.node 12 (.node 13 (.node 14 .leaf .nil) .nil) .nil) (.node 12 (.node 0 (.node 13 (.node 14 .leaf .nil) .nil) .nil) .nil)) 4 hm rfl (by kernel_rfl) (by kernel_rfl) ?_
  simp only [go_sem,simprocAttr,hgi,hpl,wj1 (i:=i+1) (by omega)]
  refine ⟨⟨by simp,by omega,by omega,i+1,by omega,by omega,?_⟩,⟨by simp,by omega,by omega,i+1,by omega,by omega,?_⟩⟩
  ·rw [htk]
   exact Jqb
  ·rw [htk]
   exact Jqb
theorem Kbq (nm:List UInt8) (s:List UInt8) (g:Int) (e:Node) (kids:RF) (hv:kids.enc.length≤999999) (hk:J0b kids.list):Det cx 62 [.p (.sl (rowL ((RT.mk 1 s g e kids).enc nm)))] [] (.p (.sl (Jq3 (Jqx kids.list)))) []:=by
 (refine Jqa false [] Tryz.func62 ?_;refine Ae hm _ _ _ ?_;simp only [Tryz.ntmps62,Tryz.results62,go_sem,simprocAttr])
 (repeat' (first | ((refine Det.use (Kbf nm s g e kids hv hk) ?_);simp only [go_sem,simprocAttr]) | fail))
end Go.LX
set_option maxRecDepth 100000
set_option maxHeartbeats 2000000
namespace Go.LX
open Go Go.RowKit Go.Proofs
attribute [local irreducible] Al SWP Bi
structure VFit (x:Tree):Prop where
 ok:okT x
 fit:FitT x
 len:(x.enc []).length≤1000000
def InOK (t:RT):Prop:=∀ x:Tree,VFit x→Det cx 17 [.p (.sl (rowL (t.enc []))),.p (.sl (valL (x.enc [])))] [] (.p (.bool (inTy t x))) []
theorem VFit.kid {k:Int} {s:List UInt8} {g:Bool} {e:Int} {kids:Forest} (h:VFit (.mk k s g e kids)) {p:KT} (hp:p∈kids.list):VFit p.2:=by
 have h3:=h.len
 rw [A6,List.length_cons] at h3
 exact ⟨Jud h.ok hp,(Mg h.fit hp).2,by have:=Jd7 hp;omega⟩
theorem k72:cx.kind 53=0:=rfl
theorem k142:cx.kind 132=0:=rfl
theorem k143:cx.kind 134=0:=rfl
theorem k144:cx.kind 135=0:=rfl
theorem k145:cx.kind 136=0:=rfl
theorem k146:cx.kind 137=0:=rfl
theorem Jur (l:List KT):∀ q∈A4 l,∃ x,q=[x]:=by
 intro q hq
 obtain ⟨p,_,rfl⟩:=List.mem_map.1 hq
 exact ⟨_,rfl⟩
theorem J4e (l:List RKT):∀ q∈Jqo l,∃ x,q=[x]:=by
 intro q hq
 obtain ⟨p,_,rfl⟩:=List.mem_map.1 hq
 exact ⟨_,rfl⟩
theorem Jxy {l:List KT} {i:Nat} {x:PV} (h:(A4 l)[i]? = some [x]):∃ q,l[i]? = some q∧x=.sl (valL (q.2.enc [])):=by
 unfold A4 at h
 rw [List.getElem?_map] at h
 obtain ⟨q,h1,h2⟩:=Option.map_eq_some_iff.1 h
 exact ⟨q,h1,by cases h2;rfl⟩
theorem J7o {l:List RKT} {i:Nat} {x:PV} (h:(Jqo l)[i]? = some [x]):∃ q,l[i]? = some q∧x=.sl (rowL (q.2.enc [])):=by
 unfold Jqo at h
 rw [List.getElem?_map] at h
 obtain ⟨q,h1,h2⟩:=Option.map_eq_some_iff.1 h
 exact ⟨q,h1,by cases h2;rfl⟩
theorem d_In1 (rows:List RKT) (r:RKT) (h0:rows[0]? = some r) (hI:InOK r.2) (x:Tree) (hx:VFit x):Det cx 53 [.p (.sl (valL (x.enc []))),.ptr 1000 0 0] [(1000,.var 35 [.p (.sl (Jqo rows))])] (.p (.bool (inTy r.2 x))) [(1000,.var 35 [.p (.sl (Jqo rows))])]:=by
 have hg:=Jye h0
 have hC:=hI x hx
 (refine Jqa false [] Tryz.func53 ?_;refine Ae hm _ _ _ ?_;simp only [Tryz.ntmps53,Tryz.results53,go_sem,simprocAttr,hg])
 (repeat' (first | ((refine Det.use (hC) ?_);simp only [go_sem,simprocAttr]) | fail))
theorem J7p {P:Tree→Bool} {l:List KT}:allF (fun i=>P (l.getD i kd0).2) l.length 0=allP P l:=Jwm (P:=fun q:KT=>P q.2) (d:=kd0) (l:=l) (m:=l) (i:=0) rfl
theorem Kam (rows:List RKT) (r:RKT) (h0:rows[0]? = some r) (hI:InOK r.2) (l:List KT) (hl:l.length≤1000000) (hx:∀ q∈l,VFit q.2):Det cx 58 [.p (.sl (A4 l)),.fn 53 [1000]] [(1000,.var 35 [.p (.sl (Jqo rows))])] (.p (.bool (allP (inTy r.2) l))) [(1000,.var 35 [.p (.sl (Jqo rows))])]:=by
 have:=Jwu 53 k72 35 (.sl (Jqo rows)) (A4 l) (Jur l) (by rw [A5];exact hl) (fun i=>inTy r.2 (l.getD i kd0).2) (fun i x h=>by
  obtain ⟨q,hq,rfl⟩:=Jxy h
  rw [Jt0 hq]
  exact d_In1 rows r h0 hI q.2 (hx q (List.mem_of_getElem? hq)))
 rw [A5,J7p] at this
 exact this
theorem d_In11 (t:RT) (hI:InOK t) (x:Tree) (hx:VFit x):Det cx 136 [.p (.sl (valL (x.enc []))),.ptr 1000 0 0] [(1000,.var 23 [.p (.sl (rowL (t.enc [])))])] (.p (.bool (inTy t x))) [(1000,.var 23 [.p (.sl (rowL (t.enc [])))])]:=by
 have hC:=hI x hx
 (refine Jqa false [] Tryz.func136 ?_;refine Ae hm _ _ _ ?_;simp only [Tryz.ntmps136,Tryz.results136,go_sem,simprocAttr])
 (repeat' (first | ((refine Det.use (hC) ?_);simp only [go_sem,simprocAttr]) | fail))
theorem J9q (t:RT) (hI:InOK t) (l:List KT) (hl:l.length≤1000000) (hx:∀ q∈l,VFit q.2):Det cx 58 [.p (.sl (A4 l)),.fn 136 [1000]] [(1000,.var 23 [.p (.sl (rowL (t.enc [])))])] (.p (.bool (allP (inTy t) l))) [(1000,.var 23 [.p (.sl (rowL (t.enc [])))])]:=by
 have:=Jwu 136 k145 23 (.sl (rowL (t.enc []))) (A4 l) (Jur l) (by rw [A5];exact hl) (fun i=>inTy t (l.getD i kd0).2) (fun i x h=>by
  obtain ⟨q,hq,rfl⟩:=Jxy h
  rw [Jt0 hq]
  exact d_In11 t hI q.2 (hx q (List.mem_of_getElem? hq)))
 rw [A5,J7p] at this
 exact this
theorem Kc4 {l:List Tree} {i:Nat} {x:PV} (h:(Jqh l)[i]? = some [x]):∃ q,l[i]? = some q∧x=.sl (valL (q.enc [])):=by
 unfold Jqh at h
 rw [List.getElem?_map] at h
 obtain ⟨q,h1,h2⟩:=Option.map_eq_some_iff.1 h
 exact ⟨q,h1,by cases h2;rfl⟩
theorem J6x (l:List Tree):∀ q∈Jqh l,∃ x,q=[x]:=by
 intro q hq
 obtain ⟨p,_,rfl⟩:=List.mem_map.1 hq
 exact ⟨_,rfl⟩
def tr0:Tree:=.mk 0 [] false 0 .nil
theorem d_In12 (ks:List Tree) (w:Tree) (h0:ks[0]? = some w) (hw:(w.enc []).length≤1000000) (x:Tree) (hx:(x.enc []).length≤1000000):Det cx 137 [.p (.sl (valL (x.enc []))),.ptr 1000 0 0] [(1000,.var 45 [.p (.sl (Jqh ks))])] (.p (.bool (Ju8 x w))) [(1000,.var 45 [.p (.sl (Jqh ks))])]:=by
 have hg:=Jro h0
 have hC:=Kal (x.enc []) (w.enc []) hx hw
 rw [show decide (x.enc []=w.enc [])=Ju8 x w from rfl] at hC
 (refine Jqa false [] Tryz.func137 ?_;refine Ae hm _ _ _ ?_;simp only [Tryz.ntmps137,Tryz.results137,go_sem,simprocAttr,hg])
 (repeat' (first | ((refine Det.use (hC) ?_);simp only [go_sem,simprocAttr]) | fail))
theorem J6b (ks:List Tree) (w:Tree) (h0:ks[0]? = some w) (hl:ks.length≤1000000) (hx:∀ q∈ks,(q.enc []).length≤1000000):Det cx 58 [.p (.sl (Jqh ks)),.fn 137 [1000]] [(1000,.var 45 [.p (.sl (Jqh ks))])] (.p (.bool (ks.all fun k=>Ju8 k w))) [(1000,.var 45 [.p (.sl (Jqh ks))])]:=by
 have:=Jwu 137 k146 45 (.sl (Jqh ks)) (Jqh ks) (J6x ks) (by rw [Jqj];exact hl) (fun i=>Ju8 (ks.getD i tr0) w) (fun i x h=>by
  obtain ⟨q,hq,rfl⟩:=Kc4 h
  rw [Jt0 hq]
  exact d_In12 ks w h0 (hx w (List.mem_of_getElem? h0)) q (hx q (List.mem_of_getElem? hq)))
 rw [Jqj,Jwm (P:=fun k=>Ju8 k w) (d:=tr0) (l:=ks) (m:=ks) (i:=0) rfl] at this
 exact this
def Jq4 (rows:List RKT) (i:Nat):Nat:=1+((rows.take i).map fun p=>(p.2.enc p.1).length).sum
theorem J2l {rows:List RKT} {i:Nat} {r:RKT} (h:rows[i]? = some r):Jq4 rows (i+1)=Jq4 rows i+(r.2.enc r.1).length:=by
 unfold Jq4
 rw [List.take_add_one,h]
 simp;omega
theorem Jvc:∀ {f:RF} {i:Nat} {r:RKT},f.list[i]? = some r→∃ b,f.enc.drop (Jq4 f.list i - 1)=r.2.enc r.1 ++ b
 | .nil,i,r,h=>by simp [RF.list] at h
 | .cons nm t f,0,r,h=>by
  simp only [RF.list,List.getElem?_cons_zero,Option.some.injEq] at h
  subst h
  exact ⟨f.enc,by rw [Jqf];simp [Jq4]⟩
 | .cons nm t f,i+1,r,h=>by
  simp only [RF.list,List.getElem?_cons_succ] at h
  obtain ⟨b,hb⟩:=Jvc h
  refine ⟨b,?_⟩
  rw [← hb,Jqf]
  have e:Jq4 (RF.cons nm t f).list (i+1) - 1=(t.enc nm).length+(Jq4 f.list i - 1):=by simp [Jq4,RF.list]
  rw [e,← List.drop_drop,List.drop_left]
theorem J7n {f:RF} {i:Nat} {r:RKT} (h:f.list[i]? = some r):Jq4 f.list i+(r.2.enc r.1).length≤f.enc.length+1:=by
 obtain ⟨b,hb⟩:=Jvc h
 have:=congrArg List.length hb
 rw [List.length_drop,List.length_append] at this
 have hp:=Jr9 r.2 r.1
 have h1:1≤Jq4 f.list i:=by unfold Jq4;omega
 omega
theorem J56 (n:Int) (c:Node) (s:List UInt8) (f:RF) (i:Nat) (r:RKT) (hr:f.list[i]? = some r) (hv:f.enc.length≤999999) (hI:InOK r.2) (vs:List UInt8) (vg:Bool) (ve:Int) (kids:Forest) (hx:VFit (.mk 6 vs vg ve kids)):Det cx 132 [.p (.sl (rowL (r.2.enc []))),.ptr 1000 0 0,.ptr 1001 0 0,.ptr 1002 0 0] [(1000,.var 25 [.p (.sl (valL ((Tree.mk 6 vs vg ve kids).enc [])))]),(1001,.var 23 [.p (.sl (rowL ((RT.mk 2 s n c f).enc [])))]),(1002,.var 3 [.p (.int .i64 (Jq4 f.list i))])] (.p (.bool (Jv4 kids.list r.1 (inTy r.2)))) [(1000,.var 25 [.p (.sl (valL ((Tree.mk 6 vs vg ve kids).enc [])))]),(1001,.var 23 [.p (.sl (rowL ((RT.mk 2 s n c f).enc [])))]),(1002,.var 3 [.p (.int .i64 (Jq4 f.list (i+1)))])]:=by
 obtain ⟨b,hb⟩:=Jvc hr
 have hpl:=J7n hr
 have h1:1≤Jq4 f.list i:=by unfold Jq4;omega
 have hd:((RT.mk 2 s n c f).enc []).drop (Jq4 f.list i)=r.2.enc r.1 ++ b:=by
  obtain ⟨j,hj⟩:∃ j,Jq4 f.list i=j+1:=⟨Jq4 f.list i - 1,by omega⟩
  rw [hj] at hb ⊢
  rw [Jqk,List.drop_succ_cons]
  exact hb
 obtain ⟨k',n',s',g',e',hga⟩:=J0w hd
 have w1:IntKind.i64.wrap ((Jq4 f.list i:Int)+((r.2.enc []).length:Int))=(Jq4 f.list (i+1):Int):=by
  rw [J2l hr,← J4y r.2 r.1,Aa (by omega) (by omega)];omega
 have hlen:=hx.len
 have hF:=Jvk (.mk 6 vs vg ve kids) r.1 hlen
 have hfl:Jx4 (.mk 6 vs vg ve kids) r.1=Ch r.1 kids.list:=if_pos rfl
 rw [hfl] at hF
 cases hf:Ch r.1 kids.list with
 | none =>
  rw [hf,Oo] at hF
  rw [show Jv4 kids.list r.1 (inTy r.2)=false by unfold Jv4;rw [hf]]
  (refine Jqa false [] Tryz.func132 ?_;refine Ae hm _ _ _ ?_;simp only [Tryz.ntmps132,Tryz.results132,go_sem,simprocAttr,hga,w1,Jqe])
  (repeat' (first | ((first | (refine Jqd hm ?_)|(refine Det.useQ (hF) ?_));simp only [go_sem,simprocAttr,hga,w1,Jqe]) | fail))
 | some u =>
  rw [hf,Oo] at hF
  rw [show Jv4 kids.list r.1 (inTy r.2)=inTy r.2 u by unfold Jv4;rw [hf]]
  obtain ⟨p,hp,rfl,_⟩:=H2 hf
  have hC:=hI p.2 (hx.kid hp)
  (refine Jqa false [] Tryz.func132 ?_;refine Ae hm _ _ _ ?_;simp only [Tryz.ntmps132,Tryz.results132,go_sem,simprocAttr,hga,w1,Jqe])
  (repeat' (first | ((first | (refine Jqd hm ?_)|(refine Det.useQ (hF) ?_)|(refine Det.use (hC) ?_));simp only [go_sem,simprocAttr,hga,w1,Jqe]) | fail))
end Go.LX
set_option maxRecDepth 100000
set_option maxHeartbeats 2000000
namespace Go.LX
open Go Go.RowKit Go.Proofs
attribute [local irreducible] Al SWP Bi
theorem J9e (n:Int) (c:Node) (s:List UInt8) (f:RF) (hv:f.enc.length≤999999) (hI:∀ r∈f.list,InOK r.2) (vs:List UInt8) (vg:Bool) (ve:Int) (kids:Forest) (hx:VFit (.mk 6 vs vg ve kids)):Det cx 54 [.p (.sl (rowL ((RT.mk 2 s n c f).enc []))),.p (.sl (valL ((Tree.mk 6 vs vg ve kids).enc [])))] [] (.p (.bool ((decide (n≠0) || decide (kids.len=f.list.length)) && objS kids.list f.list (inL f)))) []:=by
 have hfl:=RF.list_len f
 have hll:=RF.len_le f
 have hA:=J4m 132 k142 25 23 3 (Jqo f.list) (J4e _) (by rw [Jq9];omega) (fun _=>.sl (valL ((Tree.mk 6 vs vg ve kids).enc []))) (fun _=>.sl (rowL ((RT.mk 2 s n c f).enc []))) (fun i=>.int .i64 (Jq4 f.list i)) (objB kids.list f.list) (fun _=>True) trivial (fun i x h _=>by
  obtain ⟨r,hr,rfl⟩:=J7o h
  refine ⟨_,_,_,?_,fun _=>⟨rfl,rfl,rfl,trivial⟩⟩
  rw [show objB kids.list f.list i=Jv4 kids.list r.1 (inTy r.2) by unfold objB;rw [hr]]
  exact J56 n c s f i r hr hv (hI r (List.mem_of_getElem? hr)) vs vg ve kids hx)
 rw [Jq9,J3a (m:=f.list) (i:=0) rfl,← Jxq] at hA
 have hA2:=Al.perm (rs':=[(1002,.var 3 [.p (.int .i64 (Jq4 f.list 0))]),(1000,.var 25 [.p (.sl (valL ((Tree.mk 6 vs vg ve kids).enc [])))]),(1001,.var 23 [.p (.sl (rowL ((RT.mk 2 s n c f).enc [])))])]) (by
  refine .trans (.swap _ _ _) ?_
  exact .cons _ (.swap _ _ _)) hA
 have hp0:((Jq4 f.list 0:Nat):Int)=1:=rfl
 rw [hp0] at hA2
 have hA3:Det cx 131 _ _ _ _:=hA2
 have hP:=Jzg [] 2 s n c f hv (by decide)
 have hgt:(rowL ((RT.mk 2 s n c f).enc []))[0]? = some [.int .i64 2,.int .i64 f.len,.str [],.str s,.int .i64 n,.int .i64 c.kind,.int .i64 c.many,.str c.name,.str c.s,.bool c.neg,.int .i64 c.e]:=by rw [Jqk];rfl
 have hgv:=Cc [] 6 vs vg ve kids
 by_cases hn:n=0
 ·by_cases hk:(kids.len:Int)=(f.len:Int)
  ·have c2:(n=0)=True:=eq_true hn
   have c3:((kids.len:Int)=(f.len:Int))=True:=eq_true hk
   rw [show (decide (n≠0) || decide (kids.len=f.list.length))=true by simp;right;omega,Bool.true_and]
   (refine Jqa false [] Tryz.func54 ?_;refine Ae hm _ _ _ ?_;simp only [Tryz.ntmps54,Tryz.results54,go_sem,simprocAttr,hgt,hgv,c2,c3,not_true_eq_false,decide_false,decide_true])
   (repeat' (first | ((first | (refine Jqd hm ?_)|(refine Det.use (hP) ?_)|(refine Det.use (hA3) ?_));simp only [go_sem,simprocAttr,hgt,hgv,c2,c3,not_true_eq_false]) | fail))
  ·have c2:(n=0)=True:=eq_true hn
   have c3:((kids.len:Int)=(f.len:Int))=False:=eq_false hk
   rw [show (decide (n≠0) || decide (kids.len=f.list.length))=false by simp [hn];omega,Bool.false_and]
   (refine Jqa false [] Tryz.func54 ?_;refine Ae hm _ _ _ ?_;simp only [Tryz.ntmps54,Tryz.results54,go_sem,simprocAttr,hgt,hgv,c2,c3,not_false_eq_true,decide_true,decide_false])
   (repeat' (first | ((refine Jqd hm ?_);simp only [go_sem,simprocAttr,hgt,hgv,c2,c3,not_false_eq_true]) | fail))
 ·have c2:(n=0)=False:=eq_false hn
  rw [show (decide (n≠0) || decide (kids.len=f.list.length))=true by simp [hn],Bool.true_and]
  (refine Jqa false [] Tryz.func54 ?_;refine Ae hm _ _ _ ?_;simp only [Tryz.ntmps54,Tryz.results54,go_sem,simprocAttr,hgt,hgv,c2,decide_false])
  (repeat' (first | ((first | (refine Jqd hm ?_)|(refine Det.use (hP) ?_)|(refine Det.use (hA3) ?_));simp only [go_sem,simprocAttr,hgt,c2]) | fail))
theorem Jtu {k:Int} {s:List UInt8} {g:Bool} {e:Int} {kids:Forest}:entK (.mk k s g e kids)=if k=6∧kids.len=2 then (match Ch sKey kids.list,Ch sVal kids.list with
  | some (.mk k' s' _ _ _),some x=>if k'=4 then some (s',x) else none
  | _,_=>none) else none:=rfl
theorem J5m (a b:List UInt8):(Op.bytesLess a b || a == b) = !Op.bytesLess b a:=by
 cases h:Op.bytesLess b a with
 | true =>
  rw [L3 h]
  simp [Ne.symm (J90 h)]
 | false =>
  by_cases he:a=b
  ·simp [he]
  ·rw [Qf h (Ne.symm he)];rfl
theorem J7l (t:RT) (hI:InOK t) (l:List KT) (i:Nat) (q:KT) (hq:l[i]? = some q) (hx:VFit q.2):∃ d0 d1 d2,Det cx 134 [.p (.sl (valL (q.2.enc []))),.ptr 1000 0 0,.ptr 1001 0 0,.ptr 1002 0 0] [(1000,.var 4 [.p (.bool (decide (i=0)))]),(1001,.var 9 [.p (.str (if i=0 then [] else keyK (l.getD (i - 1) kd0).2))]),(1002,.var 23 [.p (.sl (rowL (t.enc [])))])] (.p (.bool (entB (inTy t) l i))) [(1000,.var 4 [.p d0]),(1001,.var 9 [.p d1]),(1002,.var 23 [.p d2])]∧(entB (inTy t) l i=true→d0=.bool (decide (i+1=0))∧d1=.str (if i+1=0 then [] else keyK (l.getD (i+1 - 1) kd0).2)∧d2=.sl (rowL (t.enc []))):=by
 obtain ⟨nm,x⟩:=q
 have hg:l.getD i kd0=(nm,x):=Jt0 hq
 have hx:VFit x:=hx
 have hE:entB (inTy t) l i=match entK x with
   | none=>false
   | some (key,u)=>(if i=0 then true else Op.bytesLess (keyK (l.getD (i - 1) kd0).2) key) && inTy t u:=by
  unfold entB;rw [hg];rfl
 have hb1:decide (i+1=0)=false:=rfl
 have hb2:(if i+1=0 then ([]:List UInt8) else keyK (l.getD (i+1 - 1) kd0).2)=keyK x:=by
  rw [if_neg (by omega),Nat.add_sub_cancel,hg]
 rw [hb1,hb2,hE]
 generalize hlast:(if i=0 then ([]:List UInt8) else keyK (l.getD (i - 1) kd0).2)=last
 have hF1:=Jvk x sKey hx.len
 have hF2:=Jvk x sVal hx.len
 unfold sKey at hF1
 unfold sVal at hF2
 cases x with
 | mk k s g e kids =>
 have hgx:=Cc [] k s g e kids
 by_cases hk:k=6
 ·subst hk
  rw [show Jx4 (.mk 6 s g e kids) [107,101,121]=Ch sKey kids.list from if_pos rfl] at hF1
  rw [show Jx4 (.mk 6 s g e kids) [118,97,108,117,101]=Ch sVal kids.list from if_pos rfl] at hF2
  cases h1:Ch sKey kids.list with
  | none =>
   rw [h1,Oo] at hF1
   rw [show entK (.mk 6 s g e kids)=none by rw [Jtu,h1];split <;> rfl]
   cases h2:Ch sVal kids.list with
   | none =>
    rw [h2,Oo] at hF2
    refine ⟨.bool (decide (i=0)),.str last,.sl (rowL (t.enc [])),?_,fun h=>by cases h⟩
    (refine Jqa false [] Tryz.func134 ?_;refine Ae hm _ _ _ ?_;simp only [Tryz.ntmps134,Tryz.results134,go_sem,simprocAttr])
    (repeat' (first | ((first | (refine Jqd hm ?_)|(refine Det.use (hF1) ?_)|(refine Det.use (hF2) ?_));simp only [go_sem,simprocAttr]) | fail))
   | some u =>
    rw [h2,Oo] at hF2
    refine ⟨.bool (decide (i=0)),.str last,.sl (rowL (t.enc [])),?_,fun h=>by cases h⟩
    (refine Jqa false [] Tryz.func134 ?_;refine Ae hm _ _ _ ?_;simp only [Tryz.ntmps134,Tryz.results134,go_sem,simprocAttr])
    (repeat' (first | ((first | (refine Jqd hm ?_)|(refine Det.use (hF1) ?_)|(refine Det.use (hF2) ?_));simp only [go_sem,simprocAttr]) | fail))
  | some kt =>
   rw [h1,Oo] at hF1
   cases h2:Ch sVal kids.list with
   | none =>
    rw [h2,Oo] at hF2
    rw [show entK (.mk 6 s g e kids)=none by rw [Jtu,h1,h2];cases kt;split <;> rfl]
    refine ⟨.bool (decide (i=0)),.str last,.sl (rowL (t.enc [])),?_,fun h=>by cases h⟩
    (refine Jqa false [] Tryz.func134 ?_;refine Ae hm _ _ _ ?_;simp only [Tryz.ntmps134,Tryz.results134,go_sem,simprocAttr])
    (repeat' (first | ((first | (refine Jqd hm ?_)|(refine Det.use (hF1) ?_)|(refine Det.use (hF2) ?_));simp only [go_sem,simprocAttr]) | fail))
   | some u =>
    rw [h2,Oo] at hF2
    obtain ⟨kk,ks,kg,ke,kkids⟩:=kt
    have hgk:=Cc [] kk ks kg ke kkids
    by_cases hm2:kids.len=2
    ·by_cases hk4:kk=4
     ·subst hk4
      rw [show entK (.mk 6 s g e kids)=some (ks,u) by rw [Jtu,if_pos ⟨rfl,hm2⟩,h1,h2];rfl]
      rw [show keyK (.mk 6 s g e kids)=ks by unfold keyK;rw [Jtu,if_pos ⟨rfl,hm2⟩,h1,h2];rfl]
      obtain ⟨p,hp,rfl,_⟩:=H2 h2
      have hC:=hI p.2 (hx.kid hp)
      have c3:((kids.len:Int)=2)=True:=eq_true (by omega)
      by_cases hi0:i=0
      ·rw [if_pos hi0] at hlast
       have c4:(i=0)=True:=eq_true hi0
       refine ⟨.bool false,.str ks,.sl (rowL (t.enc [])),?_,fun _=>⟨rfl,rfl,rfl⟩⟩
       (refine Jqa false [] Tryz.func134 ?_;refine Ae hm _ _ _ ?_;simp only [Tryz.ntmps134,Tryz.results134,go_sem,simprocAttr,hgx,hgk,c3,c4,if_true,if_false,decide_true,Bool.true_and])
       (repeat' (first | ((first | (refine Jqd hm ?_)|(refine Det.use (hF1) ?_)|(refine Det.use (hF2) ?_)|(refine Det.use (hC) ?_));simp only [go_sem,simprocAttr,hgx,hgk,c3,Bool.true_and]) | fail))
      ·rw [if_neg hi0] at hlast
       have c4:(i=0)=False:=eq_false hi0
       rw [hlast]
       have hle:=J5m ks last
       cases hbl:Op.bytesLess last ks with
       | true =>
        rw [hbl,Bool.not_true] at hle
        refine ⟨.bool false,.str ks,.sl (rowL (t.enc [])),?_,fun _=>⟨rfl,rfl,rfl⟩⟩
        (refine Jqa false [] Tryz.func134 ?_;refine Ae hm _ _ _ ?_;simp only [Tryz.ntmps134,Tryz.results134,go_sem,simprocAttr,hgx,hgk,c3,c4,hbl,hle,if_true,if_false,decide_false,Bool.true_and,Bool.not_true,Bool.not_false])
        (repeat' (first | ((first | (refine Jqd hm ?_)|(refine Det.use (hF1) ?_)|(refine Det.use (hF2) ?_)|(refine Det.use (hC) ?_));simp only [go_sem,simprocAttr,hgx,hgk,c3,hle,Bool.true_and,Bool.not_true,Bool.not_false]) | fail))
       | false =>
        rw [hbl,Bool.not_false] at hle
        refine ⟨.bool (decide (i=0)),.str last,.sl (rowL (t.enc [])),?_,fun h=>by simp [hi0,hlast,hbl] at h⟩
        (refine Jqa false [] Tryz.func134 ?_;refine Ae hm _ _ _ ?_;simp only [Tryz.ntmps134,Tryz.results134,go_sem,simprocAttr,hgx,hgk,c3,c4,hbl,hle,if_true,if_false,decide_false,Bool.false_and,Bool.not_true,Bool.not_false])
        (repeat' (first | ((first | (refine Jqd hm ?_)|(refine Det.use (hF1) ?_)|(refine Det.use (hF2) ?_));simp only [go_sem,simprocAttr,hgx,hgk,c3,hle,Bool.not_true,Bool.not_false]) | fail))
     ·rw [show entK (.mk 6 s g e kids)=none by rw [Jtu,if_pos ⟨rfl,hm2⟩,h1,h2];exact if_neg hk4]
      have c3:((kids.len:Int)=2)=True:=eq_true (by omega)
      have c5:(kk=4)=False:=eq_false hk4
      refine ⟨.bool (decide (i=0)),.str last,.sl (rowL (t.enc [])),?_,fun h=>by cases h⟩
      (refine Jqa false [] Tryz.func134 ?_;refine Ae hm _ _ _ ?_;simp only [Tryz.ntmps134,Tryz.results134,go_sem,simprocAttr,hgx,hgk,c3,c5,if_true,if_false,not_false_eq_true,decide_true])
      (repeat' (first | ((first | (refine Jqd hm ?_)|(refine Det.use (hF1) ?_)|(refine Det.use (hF2) ?_));simp only [go_sem,simprocAttr,hgx,hgk,c3,c5,not_false_eq_true]) | fail))
    ·rw [show entK (.mk 6 s g e kids)=none by rw [Jtu,if_neg (fun h=>hm2 h.2)]]
     have c3:((kids.len:Int)=2)=False:=eq_false (by omega)
     refine ⟨.bool (decide (i=0)),.str last,.sl (rowL (t.enc [])),?_,fun h=>by cases h⟩
     (refine Jqa false [] Tryz.func134 ?_;refine Ae hm _ _ _ ?_;simp only [Tryz.ntmps134,Tryz.results134,go_sem,simprocAttr,hgx,c3,if_true,if_false,not_false_eq_true,decide_true])
     (repeat' (first | ((first | (refine Jqd hm ?_)|(refine Det.use (hF1) ?_)|(refine Det.use (hF2) ?_));simp only [go_sem,simprocAttr,hgx,c3,not_false_eq_true]) | fail))
 ·rw [show Jx4 (.mk k s g e kids) [107,101,121]=none from if_neg hk,Oo] at hF1
  rw [show Jx4 (.mk k s g e kids) [118,97,108,117,101]=none from if_neg hk,Oo] at hF2
  rw [show entK (.mk k s g e kids)=none by rw [Jtu,if_neg (fun h=>hk h.1)]]
  refine ⟨.bool (decide (i=0)),.str last,.sl (rowL (t.enc [])),?_,fun h=>by cases h⟩
  (refine Jqa false [] Tryz.func134 ?_;refine Ae hm _ _ _ ?_;simp only [Tryz.ntmps134,Tryz.results134,go_sem,simprocAttr])
  (repeat' (first | ((first | (refine Jqd hm ?_)|(refine Det.use (hF1) ?_)|(refine Det.use (hF2) ?_));simp only [go_sem,simprocAttr]) | fail))
theorem J6a (t:RT) (hI:InOK t) (l:List KT) (hl:l.length≤1000000) (hx:∀ q∈l,VFit q.2):Det cx 56 [.p (.sl (rowL (t.enc []))),.p (.sl (A4 l))] [] (.p (.bool (entS (inTy t) none l))) []:=by
 have hA:=J01 134 k143 4 9 23 (A4 l) (Jur l) (by rw [A5];exact hl) (fun i=>.bool (decide (i=0))) (fun i=>.str (if i=0 then [] else keyK (l.getD (i - 1) kd0).2)) (fun _=>.sl (rowL (t.enc []))) (entB (inTy t) l) (fun _=>True) trivial (fun i x h _=>by
  obtain ⟨q,hq,rfl⟩:=Jxy h
  obtain ⟨d0,d1,d2,h1,h2⟩:=J7l t hI l i q hq (hx q (List.mem_of_getElem? hq))
  exact ⟨d0,d1,d2,h1,fun hb=>⟨(h2 hb).1,(h2 hb).2.1,(h2 hb).2.2,trivial⟩⟩)
 rw [A5,J2r (m:=l) (i:=0) (last:=none) rfl rfl] at hA
 have hA2:Det cx 58 [.p (.sl (A4 l)),.fn 134 [1000,1001,1002]] [(1000,.var 4 [.p (.bool true)]),(1001,.var 9 [.p (.str [])]),(1002,.var 23 [.p (.sl (rowL (t.enc [])))])] _ _:=hA
 (refine Jqa false [] Tryz.func56 ?_;refine Ae hm _ _ _ ?_;simp only [Tryz.ntmps56,Tryz.results56,go_sem,simprocAttr])
 (repeat' (first | ((refine Det.use (hA2) ?_);simp only [go_sem,simprocAttr]) | fail))
end Go.LX
set_option maxRecDepth 100000
set_option maxHeartbeats 2000000
namespace Go.LX
open Go Go.RowKit Go.Proofs
attribute [local irreducible] Al SWP Bi
theorem J1i {t:RT} {s:List UInt8} (hL:Jr7 t (Je s).1) {x:Tree} (hx:VFit x) (hi:inTy t x=true):∃ w,getT (Je s).1 x=.ok w∧okT w∧(w.enc []).length=1∧keyV s x=w.enc []∧keyT s x=w:=by
 obtain ⟨u,hu,hk⟩:=hL
 obtain ⟨w,hw,hiw⟩:=J49 hu hi
 obtain ⟨hlf,_⟩:=Kad hk hiw
 refine ⟨w,hw,Joe hx.ok hw,?_,?_,?_⟩
 ·cases w with
  | mk k s g e kids =>
   cases kids with
   | nil=>rw [A6,Bl];rfl
   | cons a b c=>cases hlf
 ·unfold keyV;rw [hw]
 ·unfold keyT;rw [hw]
theorem Jwp {t:RT} {s:List UInt8} (hL:Jr7 t (Je s).1):∀ {l:List KT},(∀ q∈l,VFit q.2)→allP (inTy t) l=true→Jth s l=Jqh (Jrh s l)∧∀ w∈Jrh s l,okT w∧(w.enc []).length=1
 | [],_,_=>⟨rfl,by simp [Jrh]⟩
 | q :: l,hx,ha=>by
  simp only [allP,List.all_cons,Bool.and_eq_true] at ha
  obtain ⟨w,_,h2,h3,h4,h5⟩:=J1i hL (hx q List.mem_cons_self) ha.1
  obtain ⟨i1,i2⟩:=Jwp (l:=l) hL (fun q hq=>hx q (List.mem_cons_of_mem _ hq)) ha.2
  refine ⟨?_,?_⟩
  ·have e1:Jth s (q :: l)=[.sl (valL (keyV s q.2))] :: Jth s l:=rfl
   have e2:Jqh (Jrh s (q :: l))=[.sl (valL ((keyT s q.2).enc []))] :: Jqh (Jrh s l):=rfl
   rw [e1,e2,i1,h4,h5]
  ·intro v hv
   rcases List.mem_cons.1 hv with rfl | hv
   ·show okT (keyT s q.2)∧((keyT s q.2).enc []).length=1
    rw [h5];exact ⟨h2,h3⟩
   ·exact i2 v hv
def Jt2 (s:List UInt8) (l:List KT) (i:Nat):PV:=if i=0 then .snil else .sl (valL ((grpH s (l.getD (i - 1) kd0)).enc []))
def J08 (s:List UInt8) (l:List KT) (i:Nat):Prop:=i≠0→okT (grpH s (l.getD (i - 1) kd0))∧((grpH s (l.getD (i - 1) kd0)).enc []).length≤1000000
theorem J99 (t:RT) (hI:InOK t) (s:List UInt8) (hs:s.length≤1000000) (hL:Jr7 t (Je s).1) (l:List KT) (i:Nat) (q:KT) (hq:l[i]? = some q) (hx:VFit q.2) (hpre:J08 s l i):∃ d0 d1 d2,Det cx 135 [.p (.sl (valL (q.2.enc []))),.ptr 1000 0 0,.ptr 1001 0 0,.ptr 1002 0 0] [(1000,.var 23 [.p (.sl (rowL (t.enc [])))]),(1001,.var 9 [.p (.str s)]),(1002,.var 25 [.p (Jt2 s l i)])] (.p (.bool (grpB (inTy t) s l i))) [(1000,.var 23 [.p d0]),(1001,.var 9 [.p d1]),(1002,.var 25 [.p d2])]∧(grpB (inTy t) s l i=true→d0=.sl (rowL (t.enc []))∧d1=.str s∧d2=Jt2 s l (i+1)∧J08 s l (i+1)):=by
 obtain ⟨nm,x⟩:=q
 have hg:l.getD i kd0=(nm,x):=Jt0 hq
 have hx:VFit x:=hx
 unfold grpB
 rw [hg]
 have hln:Jt2 s l (i+1)=.sl (valL ((grpH s (nm,x)).enc [])):=by unfold Jt2;rw [if_neg (by omega),Nat.add_sub_cancel,hg]
 have hlo:okT (grpH s (nm,x))→((grpH s (nm,x)).enc []).length≤1000000→J08 s l (i+1):=fun a b _=>by rw [Nat.add_sub_cancel,hg];exact ⟨a,b⟩
 cases x with
 | mk k vs vg ve kids =>
 have hxl:=hx.len
 rw [A6,List.length_cons] at hxl
 have hll:=Forest.len_le kids
 have hkl:=Forest.list_len kids
 have hgx:=Cc [] k vs vg ve kids
 by_cases hk:k=5
 ·subst hk
  by_cases hn0:kids.len=0
  ·have c3:((kids.len:Int)=0)=True:=eq_true (by omega)
   rw [show Jrz (inTy t) (nm,Tree.mk 5 vs vg ve kids)=false by unfold Jrz;simp only [Tree.kids];simp [hn0],Bool.false_and]
   refine ⟨.sl (rowL (t.enc [])),.str s,Jt2 s l i,?_,fun h=>by cases h⟩
   (refine Jqa false [] Tryz.func135 ?_;refine Ae hm _ _ _ ?_;simp only [Tryz.ntmps135,Tryz.results135,go_sem,simprocAttr,hgx,c3,if_true,decide_true])
   skip
  ·have c3:((kids.len:Int)=0)=False:=eq_false (by omega)
   have hPt:=Px [] 5 vs vg ve kids (by omega)
   have hA1:=J9q t hI kids.list (by omega) (fun q hq=>hx.kid hq)
   cases hall:allP (inTy t) kids.list with
   | false =>
    rw [hall] at hA1
    rw [show Jrz (inTy t) (nm,Tree.mk 5 vs vg ve kids)=false by unfold Jrz;simp only [Tree.kids];rw [show (kids.list.all fun x=>inTy t x.2)=false from hall];simp,Bool.false_and]
    refine ⟨.sl (rowL (t.enc [])),.str s,Jt2 s l i,?_,fun h=>by cases h⟩
    (refine Jqa false [] Tryz.func135 ?_;refine Ae hm _ _ _ ?_;simp only [Tryz.ntmps135,Tryz.results135,go_sem,simprocAttr,hgx,c3,if_true,if_false,decide_false,Bool.not_false])
    (repeat' (first | ((first | (refine Det.use (hPt) ?_)|(refine Det.use (hA1) ?_));simp only [go_sem,simprocAttr,Bool.not_false]) | fail))
   | true =>
    rw [hall] at hA1
    obtain ⟨hkt,hks⟩:=Jwp hL (fun q hq=>hx.kid hq) hall
    have hK:=J29 s kids.list hs (by omega) (fun q hq=>by have:=Jd7 hq;omega)
    rw [hkt] at hK
    rw [show Jrz (inTy t) (nm,Tree.mk 5 vs vg ve kids)=true by unfold Jrz;simp only [Tree.kids];rw [show (kids.list.all fun x=>inTy t x.2)=true from hall];simp [Tree.kind,hn0],Bool.true_and]
    have hgh:grpH s (nm,Tree.mk 5 vs vg ve kids)=Ju5 (Jrh s kids.list):=rfl
    simp only [Tree.kids]
    rw [hgh] at hln hlo ⊢
    have hne:Jrh s kids.list≠[]:=by
     intro e
     have:=congrArg List.length e
     simp [Jrh,hkl,hn0] at this
    generalize hksE:Jrh s kids.list=ks at *
    obtain ⟨w,ks',rfl⟩:∃ w ks',ks=w :: ks':=by
     cases ks with
     | nil=>exact absurd rfl hne
     | cons a b=>exact ⟨a,b,rfl⟩
    rw [show Ju5 (w :: ks')=w from rfl] at hln hlo ⊢
    obtain ⟨hw1,hw2⟩:=hks w List.mem_cons_self
    have hkk:(w :: ks').length≤1000000:=by rw [← hksE];simp [Jrh];omega
    have hS:=J6b (w :: ks') w rfl hkk (fun q hq=>by have:=(hks q hq).2;omega)
    have hg0:(Jqh (w :: ks'))[0]? = some [.sl (valL (w.enc []))]:=rfl
    generalize ((w :: ks').all fun k=>Ju8 k w)=one at hS ⊢
    by_cases hi0:i=0
    ·rw [if_pos hi0,show Jt2 s l i=.snil from if_pos hi0,Bool.and_true]
     refine ⟨.sl (rowL (t.enc [])),.str s,.sl (valL (w.enc [])),?_,fun _=>⟨rfl,rfl,hln.symm,hlo hw1 (by omega)⟩⟩
     (refine Jqa false [] Tryz.func135 ?_;refine Ae hm _ _ _ ?_;simp only [Tryz.ntmps135,Tryz.results135,go_sem,simprocAttr,hgx,c3,hg0,if_true,if_false,decide_false,decide_true,Bool.not_true])
     (repeat' (first | ((first | (refine Det.use (hPt) ?_)|(refine Det.use (hA1) ?_));simp only [go_sem,simprocAttr,Bool.not_true]) | fail))
     refine Jt5 4 [1] (.node 0 (.node 2 (.node 3 (.node 4 (.node 5 .leaf .nil) .nil) (.node 4 (.node 3 (.node 5 .leaf .nil) .nil) .nil)) (.node 4 (.node 2 (.node 3 (.node 5 .leaf .nil) .nil) .nil) .nil)) (.node 2 (.node 0 (.node 3 (.node 4 (.node 5 .leaf .nil) .nil) (.node 4 (.node 3 (.node 5 .leaf .nil) .nil) .nil)) (.node 4 (.node 0 (.node 3 (.node 5 .leaf .nil) .nil) .nil) .nil)) (.node 4 (.node 0 (.node 2 (.node 3 (.node 5 .leaf .nil) .nil) .nil) (.node 2 (.node 0 (.node 3 (.node 5 .leaf .nil) .nil) .nil) .nil)) .nil))) 5 hm rfl (by kernel_rfl) (by kernel_rfl) ?_
     simp only [go_sem,simprocAttr]
     (repeat' (first | (refine And.intro ?_ ?_)|(refine iteI (fun h=>?_) (fun h=>?_))|((first | (refine Jqd hm ?_)|(refine Det.useQ (hPt) ?_)|(refine Det.useQ (hK) ?_)|(refine Det.use (hS) ?_));simp only [go_sem,simprocAttr,hg0]) | fail))
     all_goals (try omega)
     all_goals first
      | exact (show one=true by assumption).symm
      | exact (Bool.eq_false_iff.2 (show one≠true by assumption)).symm
    ·obtain ⟨hp1,hp2⟩:=hpre hi0
     rw [if_neg hi0,show Jt2 s l i=.sl (valL ((grpH s (l.getD (i - 1) kd0)).enc [])) from if_neg hi0]
     generalize hlw:grpH s (l.getD (i - 1) kd0)=la at hp1 hp2 ⊢
     have hC:=J7m (la.enc []).length la w (Nat.le_refl _) hp1 hw1 hp2 (by omega)
     obtain ⟨cc,cs,hcc⟩:∃ cc cs,valL (la.enc [])=cc :: cs:=by
      cases la with
      | mk a1 a2 a3 a4 a5=>exact ⟨_,_,by rw [A6,Nh]⟩
     rw [hcc] at hC ⊢
     refine ⟨.sl (rowL (t.enc [])),.str s,.sl (valL (w.enc [])),?_,fun _=>⟨rfl,rfl,hln.symm,hlo hw1 (by omega)⟩⟩
     (refine Jqa false [] Tryz.func135 ?_;refine Ae hm _ _ _ ?_;simp only [Tryz.ntmps135,Tryz.results135,go_sem,simprocAttr,hgx,c3,hg0,if_true,if_false,decide_false,decide_true,Bool.not_true])
     (repeat' (first | ((first | (refine Det.use (hPt) ?_)|(refine Det.use (hA1) ?_));simp only [go_sem,simprocAttr,Bool.not_true]) | fail))
     refine Jt5 4 [1] (.node 0 (.node 2 (.node 3 (.node 4 (.node 5 .leaf .nil) .nil) (.node 4 (.node 3 (.node 5 .leaf .nil) .nil) .nil)) (.node 4 (.node 2 (.node 3 (.node 5 .leaf .nil) .nil) .nil) .nil)) (.node 2 (.node 0 (.node 3 (.node 4 (.node 5 .leaf .nil) .nil) (.node 4 (.node 3 (.node 5 .leaf .nil) .nil) .nil)) (.node 4 (.node 0 (.node 3 (.node 5 .leaf .nil) .nil) .nil) .nil)) (.node 4 (.node 0 (.node 2 (.node 3 (.node 5 .leaf .nil) .nil) .nil) (.node 2 (.node 0 (.node 3 (.node 5 .leaf .nil) .nil) .nil) .nil)) .nil))) 5 hm rfl (by kernel_rfl) (by kernel_rfl) ?_
     simp only [go_sem,simprocAttr]
     (repeat' (first | (refine And.intro ?_ ?_)|(refine iteI (fun h=>?_) (fun h=>?_))|((first | (refine Jqd hm ?_)|(refine Det.useQ (hPt) ?_)|(refine Det.useQ (hK) ?_)|(refine Det.use (hS) ?_)|(refine Det.useQ (hC) ?_));simp only [go_sem,simprocAttr,hg0]) | fail))
     all_goals (try omega)
     all_goals first
      | rw [show one=true by assumption,Bool.true_and]
      | rw [Bool.eq_false_iff.2 (show one≠true by assumption),Bool.false_and]
 ·have c3:(k=5)=False:=eq_false hk
  rw [show Jrz (inTy t) (nm,Tree.mk k vs vg ve kids)=false by unfold Jrz;simp [Tree.kind,hk],Bool.false_and]
  refine ⟨.sl (rowL (t.enc [])),.str s,Jt2 s l i,?_,fun h=>by cases h⟩
  (refine Jqa false [] Tryz.func135 ?_;refine Ae hm _ _ _ ?_;simp only [Tryz.ntmps135,Tryz.results135,go_sem,simprocAttr,hgx,c3,if_true,not_false_eq_true,decide_true])
  skip
theorem J7i (t:RT) (hI:InOK t) (s:List UInt8) (hs:s.length≤1000000) (hL:Jr7 t (Je s).1) (l:List KT) (hl:l.length≤1000000) (hx:∀ q∈l,VFit q.2):Det cx 57 [.p (.sl (rowL (t.enc []))),.p (.str s),.p (.sl (A4 l))] [] (.p (.bool (Jtb (inTy t) s none l))) []:=by
 have hA:=J01 135 k144 23 9 25 (A4 l) (Jur l) (by rw [A5];exact hl) (fun _=>.sl (rowL (t.enc []))) (fun _=>.str s) (fun i=>Jt2 s l i) (grpB (inTy t) s l) (fun i=>J08 s l i) (fun h=>absurd rfl h) (fun i x h hpre=>by
  obtain ⟨q,hq,rfl⟩:=Jxy h
  obtain ⟨d0,d1,d2,h1,h2⟩:=J99 t hI s hs hL l i q hq (hx q (List.mem_of_getElem? hq)) hpre
  exact ⟨d0,d1,d2,h1,fun hb=>⟨(h2 hb).1,(h2 hb).2.1,(h2 hb).2.2.1,(h2 hb).2.2.2⟩⟩)
 rw [A5,Jyx (m:=l) (i:=0) (last:=none) rfl rfl] at hA
 have hA2:=Al.perm (rs':=[(1002,.var 25 [.p (Jt2 s l 0)]),(1001,.var 9 [.p (.str s)]),(1000,.var 23 [.p (.sl (rowL (t.enc [])))])]) (by
  refine .trans (.swap _ _ _) (.trans (.cons _ (.swap _ _ _)) ?_)
  exact .swap _ _ _) hA
 rw [show Jt2 s l 0=.snil from rfl] at hA2
 have hA3:Det cx 58 _ _ _ _:=hA2
 (refine Jqa false [] Tryz.func57 ?_;refine Ae hm _ _ _ ?_;simp only [Tryz.ntmps57,Tryz.results57,go_sem,simprocAttr])
 (repeat' (first | ((refine Det.use (hA3) ?_);simp only [go_sem,simprocAttr]) | fail))
def tupB (rows:List RKT) (l:List KT) (i:Nat):Bool:=match rows[i]?,l[i]? with
 | some r,some q=>inTy r.2 q.2
 | _,_=>true
theorem J3f {rows:List RKT} {l:List KT}:∀ {m:List RKT} {k:List KT} {i:Nat},rows.drop i=m→l.drop i=k→m.length=k.length→allF (tupB rows l) m.length i=tupS (m.map fun p=>inTy p.2) k
 | [],[],i,_,_,_=>rfl
 | [],_ :: _,i,_,_,h=>by simp at h
 | _ :: _,[],i,_,_,h=>by simp at h
 | r :: m,q :: k,i,h1,h2,h3=>by
  have e1:rows[i]? = some r:=by have:=congrArg (·[0]?) h1;simpa using this
  have e2:l[i]? = some q:=by have:=congrArg (·[0]?) h2;simpa using this
  rw [List.length_cons,allF,List.map_cons,tupS,tupB,e1,e2,J3f (m:=m) (k:=k) (i:=i+1) (by rw [← List.drop_drop,h1];rfl) (by rw [← List.drop_drop,h2];rfl) (by simpa using h3)]
theorem J3t:∀ {ps:List (Tree→Bool)} {l:List KT},ps.length≠l.length→tupS ps l=false
 | [],[],h=>absurd rfl h
 | [],_ :: _,_=>rfl
 | _ :: _,[],_=>rfl
 | p :: ps,q :: l,h=>by rw [tupS,J3t (by simpa using h),Bool.and_false]
theorem J3d (rows:List RKT) (l:List KT) (hr:rows.length≤1000000) (hl:l.length≤1000000) (hI:∀ r∈rows,InOK r.2) (hx:∀ q∈l,VFit q.2):Det cx 55 [.p (.sl (Jqo rows)),.p (.sl (A4 l)),.fn 17 []] [] (.p (.bool (tupS (rows.map fun p=>inTy p.2) l))) []:=by
 by_cases hll:rows.length=l.length
 ·have c0:((rows.length:Int)=(l.length:Int))=True:=eq_true (by omega)
  rw [← J3f (rows:=rows) (l:=l) (m:=rows) (k:=l) (i:=0) rfl rfl hll]
  (refine Jqa false [] Tryz.func55 ?_;refine Ae hm _ _ _ ?_;simp only [Tryz.ntmps55,Tryz.results55,go_sem,simprocAttr,Jq9,A5,c0,if_true,if_false,not_true_eq_false,decide_false])
  skip
  refine SWP.loop (fun i:Nat=>⟨Ba 32 [(0,.p (.sl (Jqo rows))),(1,.p (.sl (A4 l))),(2,.fn 17 []),(15,.p (.sl (Jqo rows))),(16,.p (.int .i64 rows.length)),(17,.p (.int .i64 i))],[]⟩) (fun i=>i≤rows.length∧allF (tupB rows l) rows.length 0=allF (tupB rows l) (rows.length - i) i) (fun i=>rows.length - i) 0 Jqb ⟨Nat.zero_le _,rfl⟩ ?_
  rintro i ⟨h2,h4⟩
  by_cases hi:¬ i<rows.length
  ·have c9:((i:Int)<(rows.length:Int))=False:=eq_false (by omega)
   rw [show rows.length - i=0 by omega,allF] at h4
   (refine Ae hm _ _ _ ?_;simp only [go_sem,simprocAttr,decide_false,c9])
   skip
   rw [h4]
  ·have hi:=Decidable.not_not.1 hi
   have c9:((i:Int)<(rows.length:Int))=True:=eq_true (by omega)
   obtain ⟨r,hr1⟩:∃ r,rows[i]? = some r:=⟨_,List.getElem?_eq_getElem hi⟩
   obtain ⟨q,hq1⟩:∃ q,l[i]? = some q:=⟨_,List.getElem?_eq_getElem (by omega)⟩
   have hgr:=Jye hr1
   have hgq:=Hx hq1
   obtain ⟨k,hk1⟩:∃ k,rows.length - i=k+1:=⟨rows.length - i - 1,by omega⟩
   have hC:=hI r (List.mem_of_getElem? hr1) q.2 (hx q (List.mem_of_getElem? hq1))
   rw [hk1,allF,show tupB rows l i=inTy r.2 q.2 by unfold tupB;rw [hr1,hq1]] at h4
   cases hb:inTy r.2 q.2 with
   | false =>
    rw [hb] at hC h4
    (refine Ae hm _ _ _ ?_;simp only [go_sem,simprocAttr,c9,hgr,hgq])
    (repeat' (first | ((refine Det.use (hC) ?_);simp only [go_sem,simprocAttr,Bool.not_false]) | fail))
    rw [h4];rfl
   | true =>
    rw [hb] at hC h4
    rw [Bool.true_and] at h4
    (refine Ae hm _ _ _ ?_;simp only [go_sem,simprocAttr,c9,hgr,hgq,wj1 (i:=i) (by omega)])
    (repeat' (first | ((refine Det.use (hC) ?_);simp only [go_sem,simprocAttr,wj1 (i:=i) (by omega),Bool.not_true]) | fail))
    exact ⟨i+1,⟨by omega,by rw [h4,show rows.length - (i+1)=k by omega]⟩,by omega,Jqb⟩
 ·have c0:((rows.length:Int)=(l.length:Int))=False:=eq_false (by omega)
  rw [J3t (by simpa using hll)]
  (refine Jqa false [] Tryz.func55 ?_;refine Ae hm _ _ _ ?_;simp only [Tryz.ntmps55,Tryz.results55,go_sem,simprocAttr,Jq9,A5,c0,if_true,if_false,not_false_eq_true,decide_true])
  skip
end Go.LX
set_option maxRecDepth 100000
set_option maxHeartbeats 2000000
namespace Go.LX
open Go Go.RowKit Go.Proofs
attribute [local irreducible] Al SWP Bi
def Jxw (p:List Step):Bool:=p.all fun x=>!x.part
def fldB (p:List Step) (i:Nat):Bool:=match p[i]? with
 | some x=>!x.part
 | none=>true
theorem J20 {p:List Step}:∀ {m:List Step} {i:Nat},p.drop i=m→allF (fldB p) m.length i=Jxw m
 | [],i,_=>rfl
 | x :: m,i,h=>by
  have hx:p[i]? = some x:=by have:=congrArg (·[0]?) h;simpa using this
  rw [List.length_cons,allF,fldB,hx,J20 (m:=m) (i:=i+1) (by rw [← List.drop_drop,h];rfl)]
  rfl
theorem J13 (p:List Step) (hp:p.length≤1000000):Det cx 46 [.p (.sl (Bb p))] [] (.p (.bool (Jxw p))) []:=by
 rw [← J20 (p:=p) (m:=p) (i:=0) rfl]
 (refine Jqa false [] Tryz.func46 ?_;refine Ae hm _ _ _ ?_;simp only [Tryz.ntmps46,Tryz.results46,go_sem,simprocAttr,Aq])
 refine SWP.loop (fun i:Nat=>⟨Ba 15 [(0,.p (.sl (Bb p))),(3,.p (.int .i64 i))],[]⟩) (fun i=>i≤p.length∧allF (fldB p) p.length 0=allF (fldB p) (p.length - i) i) (fun i=>p.length - i) 0 Jqb ⟨Nat.zero_le _,rfl⟩ ?_
 rintro i ⟨h2,h4⟩
 by_cases hi:¬ i<p.length
 ·have c9:((i:Int)<(p.length:Int))=False:=eq_false (by omega)
  rw [show p.length - i=0 by omega,allF] at h4
  (refine Ae hm _ _ _ ?_;simp only [go_sem,simprocAttr,Aq,c9])
  skip
  rw [h4]
 ·have hi:=Decidable.not_not.1 hi
  have c9:((i:Int)<(p.length:Int))=True:=eq_true (by omega)
  obtain ⟨x,hq⟩:∃ x,p[i]? = some x:=⟨_,List.getElem?_eq_getElem hi⟩
  obtain ⟨k,hk1⟩:∃ k,p.length - i=k+1:=⟨p.length - i - 1,by omega⟩
  have hg:=Dk hq
  rw [hk1,allF,show fldB p i = !x.part by rw [fldB,hq]] at h4
  cases hb:x.part with
  | true =>
   rw [hb] at h4 hg
   (refine Ae hm _ _ _ ?_;simp only [go_sem,simprocAttr,Aq,c9,hg])
   skip
   rw [h4];rfl
  | false =>
   rw [hb,Bool.not_false,Bool.true_and] at h4
   rw [hb] at hg
   (refine Ae hm _ _ _ ?_;simp only [go_sem,simprocAttr,Aq,c9,hg,wj1 (i:=i) (by omega)])
   skip
   exact ⟨i+1,⟨by omega,by rw [h4,show p.length - (i+1)=k by omega]⟩,by omega,Jqb⟩
theorem Jxh (s:List UInt8) (hs:s.length≤1000000):Det cx 152 [.p (.str s)] [] (.tup [.sl (Bb (Je s).1),.bool (decide (fldS s))]) []:=by
 have hR:=J0s s hs
 have hl:=(Jvy s).1
 have hF:=J13 (Je s).1 (by omega)
 by_cases h0:(Je s).2.2=0
 ·have c1:(((Je s).2.2:Int)=0)=True:=eq_true (by omega)
  have:decide (fldS s)=Jxw (Je s).1:=by
   rw [Bool.eq_iff_iff,decide_eq_true_eq]
   unfold fldS Jxw
   simp [h0]
  rw [this]
  (refine Jqa false [] Tryz.func152 ?_;refine Ae hm _ _ _ ?_;simp only [Tryz.ntmps152,Tryz.results152,go_sem,simprocAttr,c1,decide_true])
  (repeat' (first | ((first | (refine Det.use (hR) ?_)|(refine Det.use (hF) ?_));simp only [go_sem,simprocAttr,c1]) | fail))
 ·have c1:(((Je s).2.2:Int)=0)=False:=eq_false (by omega)
  have:decide (fldS s)=false:=decide_eq_false fun h=>h0 h.1
  rw [this]
  (refine Jqa false [] Tryz.func152 ?_;refine Ae hm _ _ _ ?_;simp only [Tryz.ntmps152,Tryz.results152,go_sem,simprocAttr,c1,decide_false])
  (repeat' (first | ((refine Det.use (hR) ?_);simp only [go_sem,simprocAttr,c1]) | fail))
theorem Kbw (s:List UInt8) (hs:s.length≤1000000):Det cx 72 [.p (.str s)] [] (.p (.sl (Bb (Je s).1))) []:=by
 have hR:=Jxh s hs
 (refine Jqa false [] Tryz.func72 ?_;refine Ae hm _ _ _ ?_;simp only [Tryz.ntmps72,Tryz.results72,go_sem,simprocAttr])
 (repeat' (first | ((refine Det.use (hR) ?_);simp only [go_sem,simprocAttr]) | fail))
theorem Kbb (s:List UInt8) (v:Tree) (hs:s.length≤1000000) (hv:(v.enc []).length≤1000000):Det cx 21 [.p (.str s),.p (.sl (valL (v.enc [])))] [] (.p (.sl (valL (keyV s v)))) []:=by
 obtain ⟨hl,hok⟩:=Jvy s
 have hR:=Kbw s hs
 have hG:=Jjv (Je s).1 v (by omega) hok hv
 cases hg:getT (Je s).1 v with
 | ok u =>
  rw [hg] at hG
  simp only [getR] at hG
  rw [show keyV s v=u.enc [] by unfold keyV;rw [hg]]
  (refine Jqa false [] Tryz.func21 ?_;refine Ae hm _ _ _ ?_;simp only [Tryz.ntmps21,Tryz.results21,go_sem,simprocAttr])
  (repeat' (first | ((first | (refine Det.use (hR) ?_)|(refine Det.use (hG) ?_));simp only [go_sem,simprocAttr]) | fail))
 | error e =>
  rw [hg] at hG
  simp only [getR] at hG
  rw [show keyV s v=[] by unfold keyV;rw [hg]]
  have he:=J23 hg
  have c1:((e:Int)=0)=False:=eq_false (by omega)
  refine Det.weak ?_
  (refine Jqa false [] Tryz.func21 ?_;refine Ae hm _ _ _ ?_;simp only [Tryz.ntmps21,Tryz.results21,go_sem,simprocAttr,c1,not_false_eq_true,decide_true])
  (repeat' (first | ((first | (refine Det.use (hR) ?_)|(refine Det.use (hG) ?_));simp only [go_sem,simprocAttr,c1,not_false_eq_true]) | fail))
  exact OLe.of_p .nil
theorem Kbe (s:List UInt8) (l:List KT) (hs:s.length≤1000000) (hl:l.length≤1000000) (hv:∀ q∈l,(q.2.enc []).length≤1000000):Det cx 68 [.p (.str s),.p (.sl (A4 l))] [] (.p (.sl (Jth s l))) []:=by
 (refine Jqa false [] Tryz.func68 ?_;refine Ae hm _ _ _ ?_;simp only [Tryz.ntmps68,Tryz.results68,go_sem,simprocAttr,A5])
 skip
 refine SWP.of_le (B1 [(7,22)] _ (by simp)) ?_
 simp only [go_sem,simprocAttr]
 refine SWP.loop (fun k:Nat=>⟨Ba 24 [(0,.p (.str s)),(1,.p (.sl (A4 l))),(5,.own 22 0 k),(6,.p (.int .i64 k))],[(22,.row 25 1 (Jth s (l.take k)))]⟩) (fun k=>k≤l.length) (fun k=>l.length - k) 0 Jqb (Nat.zero_le _) ?_
 rintro k hk
 by_cases hlt:¬ k<l.length
 ·have hk2:k=l.length:=by omega
  subst hk2
  have c1:((l.length:Int)<(l.length:Int))=False:=eq_false (by omega)
  have ht1:l.take l.length=l:=List.take_of_length_le (Nat.le_refl _)
  have ht2:(Jth s l).take l.length=Jth s l:=List.take_of_length_le (by rw [Jwq];omega)
  have hle:(l.length≤l.length)=True:=eq_true (Nat.le_refl _)
  (refine Ae hm _ _ _ ?_;simp only [go_sem,simprocAttr,A5,c1,ht1,ht2,Jwq,hle])
  skip
 ·have hlt:=Decidable.not_not.1 hlt
  have c1:((k:Int)<(l.length:Int))=True:=eq_true (by omega)
  obtain ⟨p,hp⟩:∃ p,l[k]? = some p:=⟨_,List.getElem?_eq_getElem hlt⟩
  have hg:=Hx hp
  have hK:=Kbb s p.2 hs (hv p (List.mem_of_getElem? hp))
  have hpl:(Jth s (l.take k)).length=k:=by rw [Jwq,List.length_take];omega
  have htk:=J45 (s:=s) hp
  (refine Ae hm _ _ _ ?_;simp only [go_sem,simprocAttr,A5,c1,hg,wj1 (i:=k) (by omega)])
  (repeat' (first | ((refine Det.use (hK) ?_);simp only [go_sem,simprocAttr,hpl,wj1 (i:=k) (by omega)]) | fail))
  exact ⟨by simp,by omega,by omega,k+1,by omega,by omega,by rw [htk];exact Jqb⟩
def Ka8 (t:RT):Prop:=∀ x:Tree,VFit x→Det cx 18 [.p (.sl (rowL (t.enc []))),.p (.sl (valL (x.enc [])))] [] (.p (.bool (inTy t x))) []
theorem Kbx (t:RT) (hI:Ka8 t) (l:List KT) (hl:l.length≤1000000) (hx:∀ q∈l,VFit q.2):Det cx 64 [.p (.sl (rowL (t.enc []))),.p (.sl (A4 l))] [] (.p (.bool (allP (inTy t) l))) []:=by
 rw [← J7p]
 (refine Jqa false [] Tryz.func64 ?_;refine Ae hm _ _ _ ?_;simp only [Tryz.ntmps64,Tryz.results64,go_sem,simprocAttr,A5])
 refine SWP.loop (fun i:Nat=>⟨Ba 19 [(0,.p (.sl (rowL (t.enc [])))),(1,.p (.sl (A4 l))),(5,.p (.int .i64 i))],[]⟩) (fun i=>i≤l.length∧allF (fun i=>inTy t (l.getD i kd0).2) l.length 0=allF (fun i=>inTy t (l.getD i kd0).2) (l.length - i) i) (fun i=>l.length - i) 0 Jqb ⟨Nat.zero_le _,rfl⟩ ?_
 rintro i ⟨h2,h4⟩
 by_cases hi:¬ i<l.length
 ·have c9:((i:Int)<(l.length:Int))=False:=eq_false (by omega)
  rw [show l.length - i=0 by omega,allF] at h4
  (refine Ae hm _ _ _ ?_;simp only [go_sem,simprocAttr,A5,c9])
  skip
  rw [h4]
 ·have hi:=Decidable.not_not.1 hi
  have c9:((i:Int)<(l.length:Int))=True:=eq_true (by omega)
  obtain ⟨q,hq⟩:∃ q,l[i]? = some q:=⟨_,List.getElem?_eq_getElem hi⟩
  obtain ⟨k,hk1⟩:∃ k,l.length - i=k+1:=⟨l.length - i - 1,by omega⟩
  have hg:=Hx hq
  have hC:=hI q.2 (hx q (List.mem_of_getElem? hq))
  rw [hk1,allF,Jt0 hq] at h4
  cases hb:inTy t q.2 with
  | false =>
   rw [hb] at hC h4
   (refine Ae hm _ _ _ ?_;simp only [go_sem,simprocAttr,A5,c9,hg])
   (repeat' (first | ((refine Det.use (hC) ?_);simp only [go_sem,simprocAttr,Bool.not_false]) | fail))
   rw [h4];rfl
  | true =>
   rw [hb,Bool.true_and] at h4
   rw [hb] at hC
   (refine Ae hm _ _ _ ?_;simp only [go_sem,simprocAttr,A5,c9,hg,wj1 (i:=i) (by omega)])
   (repeat' (first | ((refine Det.use (hC) ?_);simp only [go_sem,simprocAttr,wj1 (i:=i) (by omega),Bool.not_true]) | fail))
   exact ⟨i+1,⟨by omega,by rw [h4,show l.length - (i+1)=k by omega]⟩,by omega,Jqb⟩
end Go.LX
