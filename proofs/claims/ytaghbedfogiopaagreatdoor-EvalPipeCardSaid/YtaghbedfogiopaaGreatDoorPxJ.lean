/- Paths: texts, there and back: plain laws. -/
import Derived.Test.YtaghbedfogiopaaGreatDoorPxI
import Derived.OpenShut
import Derived.ProofKit
import Derived.Deep.Slices
import Derived.Test.YtaghbedfogiopaaGreatDoorCards
import Derived.Test.YtaghbedfogiopaaGreatDoorTie
import Derived.Deep.DeepWitnessRowRef
import Derived.Lib.LaidIn
import Derived.Lib.LaidU8T
import Derived.Lib.Repeat
set_option linter.unusedSimpArgs false
set_option linter.unusedVariables false
set_option linter.unusedSectionVars false
set_option linter.unnecessarySimpa false
set_option maxRecDepth 100000
set_option maxHeartbeats 2000000
namespace Go.LX
open Go Go.RowKit Go.Proofs
attribute [local irreducible] Al SWP Bi
theorem Ww {s:List UInt8} {m:Nat} (h1:m<=s.length) (h2:∀ j,j<m->H3 s j) (h3:m<s.length->¬ H3 s m):Dm s=m:=by
 have hle:=P3 s;rcases Nat.lt_trichotomy (Dm s) m with h | h | h
 ·exact absurd (h2 _ h) (Jam omg)
 ·exact h
 ·exact absurd (Sh h) (h3 omg)
theorem Xk:∀ (k m:Nat),m<10 ^ (k+1)->(Lib.decDigits m).length<=k+1
 | 0,m,h=>by
  rw[Fv,if_pos (by simpa using h)];simp
 | k+1,m,h=>by
  rw[Fv];split
  ·simp
  ·have:=Xk k (m / 10) (by rw[Nat.pow_succ] at h;omega);rw[Eac];simp;omega
theorem J8t:∀ {s:List UInt8},(∀ c∈s,c.toNat<128)->valid s=true:=by
 intro s h;refine Jb.2 ⟨s.map fun c=>(c.toNat:Int),?_,?_⟩
 ·intro r hr;obtain ⟨c,hc,rfl⟩:=Eap.1 hr;have:=h c hc;unfold Cy;omega
 ·induction s with
  | nil=>rfl
  | cons c s ih =>
   rw[Eaq,Ki,<- ih fun d hd=>h d (Eai _ hd)];have hc:=h c Eaf;have:utf (c.toNat:Int)=[c]:=by
    unfold utf;rw[Nb ⟨omg,omg⟩];have e:((c.toNat:Int) % 256).toNat=c.toNat:=by omega
    simp[u8of,e]
   rw[this];rfl
theorem J8x {s:List UInt8} {j:Nat} (h:H3 s j):at_ s j<128:=by
 unfold H3 letP figP at h;omega
theorem J1w {s:List UInt8} (h:(Bw s).2≠0):Bc (Bw s).1/\(Bw s).1.part=false/\s.take (Bw s).2=Bv (Bw s).1/\(Bw s).2<=s.length:=by
 have hle:=Jf2 s;unfold Bw at h ⊢;split at h
 case isFalse=>exact absurd rfl h
 rename_i h46;rw[if_pos h46];obtain ⟨r,rfl⟩:∃ r,s=46 :: r:=by
  cases s with
  | nil=>simp at h46
  | cons c r=>simp at h46;exact ⟨r,by rw[h46]⟩
 simp only[Ecd,Ebn] at h ⊢;have hwl:=P3 r;split at h
 ·rename_i hw;rw[if_pos hw];have hwd:isWd (r.take (Dm r)):=by
   refine ⟨fun e=>?_,Ww (Eah _) (fun j hj=>?_) (fun h=>absurd h (Nat.lt_irrefl _))⟩
   ·have:=congrArg List.length e;rw[Eay,Ea8] at this;omega
   ·simp at hj;have:=Sh (s:=r) (j:=j) omg;unfold H3 at this ⊢;rw[Kaz omg];exact this
  refine ⟨?_,rfl,?_,by simp;omega⟩
  ·unfold Bc;rw[if_neg sm];refine ⟨rfl,J8t fun c hc=>?_⟩;obtain ⟨j,hj,rfl⟩:=Eba hc;simp at hj;have:=J8x (Sh (s:=r) (j:=j) omg);rw[Ql omg] at this;simpa using this
  ·unfold Bv;rw[if_neg sm,if_pos hwd,Ebv]
 ·rename_i hw;rw[if_neg hw];split at h
  ·exact absurd rfl h
  ·rename_i hc;rw[if_neg hc];simp only[not_or,ne_eq,Ea9] at hc;obtain ⟨c1,c2,c3⟩:=hc;have hg:=Jni c1;refine ⟨?_,rfl,?_,by simp;omega⟩
   ·unfold Bc;rw[if_neg sm];exact ⟨rfl,hg.1⟩
   ·unfold Bv;rw[if_neg sm,if_neg c2,Ebv,c3]
theorem Kfl {r:List UInt8} (h0:dgR 7 r≠[]) (h1:¬ (at_ r 0=48/\1<(dgR 7 r).length)):r.take (dgR 7 r).length=dgR 7 r/\Lib.decDigits (valD (dgR 7 r))=dgR 7 r:=by
 have hp:=Jdy 7 r;have hall:=Jc6 7 r;generalize dgR 7 r=t at *
 have hlt:0<t.length:=Ecj.2 h0;have ha0:at_ t 0=at_ r 0:=by
  rw[hp];simp only[at_,Eaj];rw[Ecy omg]
 exact ⟨hp.symm,(Sa (t.length - 1) t omg hall (by rw[ha0];omega)).1⟩
theorem J4i {s:List UInt8} (h:(Ce s).2≠0):Bc (Ce s).1/\(Ce s).1.part=true/\s.take (Ce s).2=Bv (Ce s).1/\(Ce s).2<=s.length:=by
 have hle:=Zo s;have h91:s.take 1=[91]:=by
  unfold Ce at h;split at h
  ·rename_i hc;exact hc.1
  ·exact absurd rfl h
 obtain ⟨r,rfl⟩:∃ r,s=91 :: r:=by
  cases s with
  | nil=>simp at h91
  | cons c r=>simp at h91;exact ⟨r,by rw[h91]⟩
 obtain ⟨g1,g2,g3,g4⟩:=J2k h;have hf:=Jle g1 g2 g3 g4;have hlen:=Jd2 7 r;rw[hf];rw[hf] at hle;refine ⟨?_,rfl,?_,hle⟩
 ·unfold Bc;rw[if_pos rfl];exact ⟨rfl,by simp only;omega,by simp only;omega⟩
 ·unfold Bv;rw[if_pos rfl];simp only[Lib.itoa_nonneg];obtain ⟨hq,hcan⟩:=Kfl g1 g2;rw[hcan,Ebv];congr 1;rw[Ebc,hq,g4];rfl
theorem Kar {s:List UInt8} {i:Nat} (hi:0<i) (h:(Ee s i).2≠0):Bc (Ee s i).1/\(s.drop i).take (Ee s i).2=Bv (Ee s i).1:=by
 unfold Ee at h ⊢;split at h
 ·rename_i hf;rw[if_pos hf];have:=J1w hf;exact ⟨this.1,this.2.2.1⟩
 ·rename_i hf;rw[if_neg hf,if_neg omg];rw[if_neg omg] at h;have:=J4i h;exact ⟨this.1,this.2.2.1⟩
theorem J3d:∀ (f:Nat) (s:List UInt8) (i:Nat) (p:List Step),0<i->i<=s.length->p.length<=20->∃ q,(Fl s f i p).1=p ++ q/\(∀ x∈q,Bc x)/\(Fl s f i p).1.length<=20/\s.drop i=Br q ++ s.drop (Fl s f i p).2/\(Fl s f i p).2<=s.length
 | 0,s,i,p,_,hi,hp=>⟨[],by simp[Fl],by simp,by simpa[Fl] using hp,by simp[Fl,Br],by simpa[Fl] using hi⟩
 | f+1,s,i,p,h0,hi,hp=>by
  rw[Fl];split
  ·rename_i hc;obtain ⟨c1,c2,c3⟩:=hc;obtain ⟨g1,g2⟩:=Kar h0 c3;have hle:=Jzk hi;obtain ⟨q,k1,k2,k3,k4,k5⟩:=J3d f s (i+(Ee s i).2) (p ++ [(Ee s i).1]) omg hle (by simp;omega);refine ⟨(Ee s i).1 :: q,by rw[k1];simp,fun x hx=>?_,k3,?_,k5⟩
   ·rcases Eak.1 hx with rfl | hx
    ·exact g1
    ·exact k2 x hx
   ·have e:Br ((Ee s i).1 :: q)=Bv (Ee s i).1 ++ Br q:=rfl;rw[e,<- g2,Ea2,<- k4,<- Ebj,Ebk]
  ·exact ⟨[],by simp,by simp,hp,by simp[Br],hi⟩
theorem Kb0 {s:List UInt8} (h:(Je s).2.2=0):(Je s).2.1=0/\E9 (Je s).1/\Hy (Je s).1=s:=by
 unfold Je at h ⊢;by_cases h1:s=[46]
 ·rw[if_pos h1];exact ⟨rfl,⟨by simp,by simp⟩,by rw[h1];rfl⟩
 ·rw[if_neg h1] at h ⊢;split at h
  ·cases h
  ·rename_i hc;rw[if_neg hc];simp only[not_or,Nat.not_lt] at hc;obtain ⟨c1,c2⟩:=hc;refine ⟨rfl,?_⟩;simp only;unfold Mp at c1 c2 ⊢;rw[Fl] at c1 c2 ⊢;split at c2
   ·rename_i hd;rw[if_pos hd] at c1 ⊢;obtain ⟨d1,_,d3⟩:=hd;have hle:=Jzk (s:=s) (i:=0) (Eau _);obtain ⟨q,k1,k2,k3,k4,k5⟩:=J3d s.length s (0+(Ee s 0).2) ([] ++ [(Ee s 0).1]) omg hle sm;have hend:(Fl s s.length (0+(Ee s 0).2) ([] ++ [(Ee s 0).1])).2=s.length:=by omega
    rw[hend,List.drop_length,Eaw] at k4;rw[k1] at k3 ⊢;simp only[List.nil_append,Ebh,Ebo] at *
    unfold Ee at d3 k4 k3 ⊢;simp only[Ebn] at d3 k4 k3 ⊢;by_cases hf:(Bw s).2≠0
    ·rw[if_pos hf] at k4 k3 ⊢;obtain ⟨f1,f2,f3,_⟩:=J1w hf;refine ⟨⟨k3,fun x hx=>?_⟩,?_⟩
     ·rcases Eak.1 hx with rfl | hx
      ·exact f1
      ·exact k2 x hx
     ·unfold Hy;simp only;rw[if_neg (by rw[f2];simp)];have e:Br ((Bw s).1 :: q)=Bv (Bw s).1 ++ Br q:=rfl;rw[e,<- f3,<- k4,Ebk]
    ·rw[if_neg hf,if_pos trivial] at d3 k4 k3 ⊢;split at d3
     ·rename_i hp;rw[if_pos hp] at k4 k3 ⊢;obtain ⟨p1,p2⟩:=hp;obtain ⟨f1,f2,f3,_⟩:=J4i p2;obtain ⟨r,rfl⟩:∃ r,s=46 :: r:=by
       cases s with
       | nil=>simp at p1
       | cons c r=>simp at p1;exact ⟨r,by rw[p1]⟩
      simp only[Ecd,Ebn] at *
      refine ⟨⟨k3,fun x hx=>?_⟩,?_⟩
      ·rcases Eak.1 hx with rfl | hx
       ·exact f1
       ·exact k2 x hx
      ·unfold Hy;simp only;rw[if_pos f2];have e:Br ((Ce r).1 :: q)=Bv (Ce r).1 ++ Br q:=rfl;rw[e,<- f3,<- k4,Ebk]
     ·exact absurd rfl d3
   ·simp at c2
theorem Kbt {s:List UInt8} (h:(Je s).2.2≠0):(Je s).2.2=1/\(Je s).1=[]/\(Je s).2.1<=s.length:=by
 unfold Je at h ⊢;by_cases h1:s=[46]
 ·rw[if_pos h1] at h;exact absurd rfl h
 ·rw[if_neg h1] at h ⊢;split at h
  ·rename_i hc;rw[if_pos hc];refine ⟨rfl,rfl,?_⟩;have key:∀ (f i:Nat) (p:List Step),i<=s.length->(Fl s f i p).2<=s.length:=by
    intro f
    induction f with
    | zero=>intro i p hi;exact hi
    | succ f ih =>
     intro i p hi;rw[Fl];split
     ·exact ih _ _ (Jzk hi)
     ·exact hi
   exact key _ _ _ (Eau _)
  ·exact absurd rfl h
end Go.LX
namespace Go.LX
open Go Go.RowKit Go.Proofs Go.Proofs.Tryz
attribute [local irreducible] Al SWP Bi
def Ih (v:List Node):Bool:=v.all fun n=>decide (n.s.length<=200) && decide (n.name.length<=200)
noncomputable def fewB (v:List Node) (m:Nat):Bool:=decide (v.length<=m) && (Ih v && Jw v)
structure EFit (n:Node):Prop where
 s:n.s.length<=9223372036854775807
 name:n.name.length<=9223372036854775807
 e0:-9223372036854775808<=n.e
 e1:n.e<=9223372036854775807
theorem Jbf {v:List Node} {i:Nat} {n:Node} (h:v[i]? = some n):Ih (v.take (i+1))=(Ih (v.take i) && (decide (n.s.length<=200) && decide (n.name.length<=200))):=by
 unfold Ih;rw[Ebc,h,List.all_append];simp
theorem Y1 {v:List Node} {i:Nat} {n:Node} (h:v[i]? = some n) (hn:¬ (n.s.length<=200/\n.name.length<=200)):Ih v=false:=by
 unfold Ih;rw[List.all_eq_false];exact ⟨n,Eag h,by simpa using hn⟩
theorem Ln (v:List Node) (m:Nat) (hm':m<=1000) (hv:v.length<=9223372036854775807) (hf:∀ n∈v,EFit n):Det cx 27 [.p (.sl (valL v)),.p (.int .i64 m)] [] (.p (.bool (fewB v m))) []:=by
 by_cases hl:v.length<=m
 ·have c0:((m:Int)<(v.length:Int))=False:=eq_false omg;(refine bgo func27 ?_;simp only[go_sem,simprocAttr,A7,c0]);refine SWP.loop (fun i:Nat=>⟨Ba 34 [(0,.p (.sl (valL v))),(1,.p (.int .i64 m)),(5,.p (.int .i64 i))],[]⟩) (fun i=>i<=v.length/\Ih (v.take i)=true) (fun i=>v.length - i) 0 Jqc ⟨Eau _,rfl⟩ ?_;rintro i ⟨h1,h2⟩;by_cases hi:¬ i<v.length
  ·have c1:((i:Int)<(v.length:Int))=False:=eq_false omg;rw[Eae omg] at h2;have hfit:∀ n∈v,NodeFit n:=fun n hn=>by
    have h3:=h2;unfold Ih at h3;have:=Eby.1 h3 n hn;simp only[Ebb,decide_eq_true_eq] at this;exact ⟨omg,omg,(hf n hn).e0,(hf n hn).e1⟩
   have hg:=c1;have w1:=c1;(refine lws ?_;simp only[go_sem,simprocAttr,A7,c1]);(repeat'(first|((refine Jqa (Jp v omg hfit) ?_);simp only[go_sem,simprocAttr])|fail));unfold fewB;rw[decide_eq_true hl,h2];simp
  ·have hi:=Ea9.1 hi;have c1:((i:Int)<(v.length:Int))=True:=eq_true omg;obtain ⟨n,hn⟩:∃ n,v[i]? = some n:=⟨_,Eaa hi⟩
   have hg:=U5 hn;have w1:=wj1 (i:=i) omg;have hfn:=hf n (Eag hn);have hsn:=hfn.s;have hnn:=hfn.name;(refine lws ?_;simp only[go_sem,simprocAttr,A7,c1,hg,w1]);(repeat'(apply iteI<;>intro h))
   all_goals first
    | (
     refine ⟨i+1,⟨omg,?_⟩,omg,Jqc⟩;rw[Jbf hn,h2];simp;omega)
    | (
     unfold fewB;rw[Y1 hn omg];simp)
 ·have c0:((m:Int)<(v.length:Int))=True:=eq_true omg;have c1:=c0;have hg:=c0;have w1:=c0;(refine bgo func27 ?_;simp only[go_sem,simprocAttr,A7,c0]);unfold fewB;rw[decide_eq_false hl];simp
theorem Jnl {v:List Node} {m:Nat}:fewB v m=true ↔ v.length<=m/\(∀ n∈v,n.s.length<=200/\n.name.length<=200)/\∃ t,okT t/\v=t.enc []:=by
 unfold fewB Ih;rw[Ebb,Ebb,decide_eq_true_eq,Iq,Eby];simp only[Ebb,decide_eq_true_eq];rfl
end Go.LX
namespace Go.LX
open Go Go.RowKit Go.Proofs
attribute [local irreducible] Al SWP Bi
def tOne:Tree:=.mk 2 [] false 0 .nil
def tTwo:Tree:=.mk 5 [] false 0 (.cons [] tOne (.cons [] tOne .nil))
def tObj:Tree:=.mk 6 [] false 0 (.cons [97] tTwo .nil)
def tSet:Tree:=.mk 6 [] false 0 (.cons [97] tOne .nil)
def ndL (k m:Int) (nm:List UInt8):List PV:=[.int .i64 k,.int .i64 m,.str nm,.str [],.bool false,.int .i64 0]
theorem vOne:valL (tOne.enc [])=[ndL 2 0 []]:=by simp[tOne,A6,Bl,valL,Node.cells,ndL,Forest.len]
theorem vSet:valL (tSet.enc [])=[ndL 6 1 [],ndL 2 0 [97]]:=by simp[tSet,tOne,A6,A0,Bl,valL,Node.cells,ndL,Forest.len]
def pA:List Step:=[⟨false,[97],0⟩,⟨true,[],0⟩,⟨false,[98,32,99],0⟩]
end Go.LX
namespace Go.LX
open Go Go.RowKit Go.Proofs Go.Proofs.Tryz
attribute [local irreducible] Al SWP Bi
structure ValFit (v:List Node):Prop where
 len:v.length<=140737488355328
 node:∀ n∈v,EFit n
theorem Fw {v:List Node} (hv:ValFit v) {m:Nat} (h:fewB v m=true):∃ t,okT t/\v=t.enc []/\(t.enc []).length<=m/\FitT t:=by
 obtain ⟨h1,h2,t,h3,rfl⟩:=Jnl.1 h;exact ⟨t,h3,rfl,h1,fun n hn=>⟨by have:=(h2 n hn).1;omega,by have:=(h2 n hn).2;omega,(hv.node n hn).e0,(hv.node n hn).e1⟩⟩
theorem Jz:Det cx 14 [.p .snil,.p .snil] [] (.p (.bool true)) []:=by
 (refine bgo func14 ?_;simp only[go_sem,simprocAttr]);refine SWP.loop (fun _:Nat=>⟨Ba 26 [(0,.p (.sl [])),(1,.p (.sl [])),(5,.p (.int .i64 0))],[]⟩) (fun _=>True) (fun _=>0) 0 Jqc trivial ?_;intro i _;(refine lws ?_;simp only[go_sem,simprocAttr])
 skip
end Go.LX
namespace Go.LX
open Go Go.Proofs Go.RowKit Go.ChangeShapes Go.WideShapes Go.ChangeAt
section
variable {H:Type} {enc:TypeId×Value->H} {P:Program}
theorem Kz (hl:laidOutB P=true) {W W':World} {sp:Nat->Bool}:∀ (ts:List TypeId) (vs:List Value) (ds:List (DataW H)) (ps:List MemPlace),(∀ t∈ts,P.readableRec t=true/\t<P.types.size) ->
  DataW.TrodAll enc P W 0 (fun _=>true) true ts vs ds ps->(∀ p∈ps,W.sameAt W' p)->(∀ p∈ps,sp p.block=true)->DataW.TrodAll enc P W' 0 sp true ts vs ds ps
 | [],vs,ds,ps,_,h,_,_=>by
  obtain ⟨rfl,rfl,rfl⟩:=trodAll_nil h;exact trodAll_mk0
 | t :: ts,vs,ds,ps,hr,h,hs,hb=>by
  obtain ⟨v,vs',d,ds',p,q,rfl,rfl,rfl,h0,h1⟩:=trodAll_cons h;have ht:=hr t Eaf;exact trodAll_cons_mk (WideElems.Trod_stays hl ht.1 ht.2 h0 (fun x hx=>hs x (Eb9 _ hx)) fun x hx=>hb x (Eb9 _ hx))
   (Kz hl ts vs' ds' q (fun u hu=>hr u (Eai _ hu)) h1 (fun x hx=>hs x (Ecb _ hx)) fun x hx=>hb x (Ecb _ hx))
theorem M7 (hl:laidOutB P=true) {f:Func} {s:ChangeSpec} {b:TypeId} {W W':World} {args:Array Value} {ds gs:List (DataW H)} {before:List MemPlace} (hv:s.vars=[])
  (hrd:∀ t∈f.params.toList,P.readableRec t=true/\t<P.types.size) (hrt:f.resultTypes = #[b]) (hb:P.underlying b=some .bool)
  (hW:DataW.Whole enc P f.params.toList s.vars false W args.toList ds gs before) (hfn:s.fn H ds = { results:=[.lit (.bool true)],args:=ds }) (hbel:Below W.heap.size W W') :
  s.post enc P f false true false false W args (.bool true) W':=by
 have hW':=hW;have hlt:∀ p∈before,p.block<W.heap.size:=fun p hp=>hW'.lt p hp
 obtain ⟨p,q,hA,hV,rfl,hfz,hnd⟩:=hW;rw[hv] at hV;obtain ⟨rfl,rfl⟩:=trodVars_none hV;simp only[Eaw] at hlt;refine ⟨ds,[],p ++ [],[],p,[],hW',?_,?_,?_,hbel.frame _,fun h=>by cases h⟩
 ·rw[Eaw,hfn,hrt];exact trodAll_mk1 (shut_bool hb _)
 ·rw[Eaw,hfn];exact Kz hl _ _ _ _ hrd hA (fun x hx=>hbel.same (hlt x hx)) fun x hx=>by simpa using hlt x hx
 ·rw[Eaw,hfn,hv];rfl
end
end Go.LX
namespace Go.LX
open Go Go.Proofs Go.RowKit Go.ChangeShapes Go.WideShapes Go.ChangeAt Go.Lib
def Ja (W:World) (b:Nat):Prop:=b<W.heap.size
theorem Jkw {α:Type} {Q:Nat->α->Prop}:∀ n,(∀ i,i<n->∃ x,Q i x)->∃ p:List α,p.length=n/\∀ i x,p[i]? = some x->Q i x
 | 0,_=>⟨[],rfl,fun i x h=>by simp at h⟩
 | n+1,h=>by
  obtain ⟨p,hp,hq⟩:=Jkw n fun i hi=>h i omg
  obtain ⟨x,hx⟩:=h n omg;refine ⟨p ++ [x],by simp[hp],fun i y hy=>?_⟩;rcases Nat.lt_trichotomy i n with hi | hi | hi
  ·rw[Eat omg] at hy;exact hq i y hy
  ·subst hi;rw[Ear omg,hp] at hy;simp at hy;subst hy;exact hx
  ·rw[Edd (by simp[hp];omega)] at hy;cases hy
theorem J8 {H:Type} {P:Program} {e:TypeId} {d:DataW H} {n:Nat}:∀ {l:List (DataW H)},d∈l->n∈d.weights P e->n∈DataW.weightsAll P e l
 | [],h,_=>by cases h
 | a :: l,h,hn=>by
  simp only[DataW.weightsAll,Eax];rcases Eak.1 h with rfl | h
  ·exact .inl hn
  ·exact .inr (J8 h hn)
theorem Jka (b off k:Nat):(⟨b,off,none⟩:Addr).add k=⟨b,off+k,none⟩:=by
 unfold Addr.add;split
 ·rename_i h;subst h;rfl
 ·rfl
theorem openIn {α H:Type} {enc:TypeId×Value->H} {P:Program} {w:World} {t e:TypeId} {c:Nat} (vals:α->List Value) (cells:α->List PV) (Good:α->Prop)
  (ht:P.underlying t=some (.slice e)) (hc:P.cellsOf e=c) (hc0:0<c) (hb:0<P.bytesOf e) (hvl:∀ x,(vals x).length=c) (hcl:∀ x,(cells x).length=c) (hsc:∀ x,∀ p∈cells x,p.scalar=true)
  (hrep:∀ x j p,Good x->(cells x)[j]? = some p->PRep w (Ja w) ((vals x).getD j undef) p)
  (each:∀ (fuel:Nat) (cs:List Value) (y:DataW H×List MemPlace),DataW.trod enc P w 0 (fun _=>true) true fuel e cs=some y->(∀ n∈y.1.weights P e,n<=reachBytes)->∃ x,Good x/\cs=vals x)
  {cs:List Value} {fuel:Nat} {x:DataW H×List MemPlace} (h:DataW.trod enc P w 0 (fun _=>true) true fuel t cs=some x) (hz:∀ n∈x.1.weights P t,n<=reachBytes) :
  ∃ (v:Value) (p:List α),cs=[v]/\p.length<=140737488355328/\(∀ a∈p,Good a)/\PRep w (Ja w) v (.sl (p.map cells)):=by
 rcases Go.Deep.open_slice ht h with ⟨rfl,rfl⟩ | ⟨a,len,cap,m,n,D,Pl,rfl,hb0,hl,hm,hmm,rfl,hx⟩
 ·exact ⟨_,[],rfl,by simp,by simp,PRep.slNil⟩
 ·simp only[if_true] at hmm;subst hmm;by_cases h0:m=0
  ·subst h0;obtain rfl:len=0:=by omega
   exact ⟨_,[],rfl,by simp,by simp,PRep.slNil⟩
  obtain ⟨blk,off,spot⟩:=a;obtain ⟨cs0,hc1,_⟩:=hx 0 omg;have h00:=(World.cells?_some hc1).2.2 0 omg;have hl0:=(World.cells?_some hc1).2.1;have hcell:(w.cell? ⟨blk,off,spot⟩).isSome=true:=by
   have e1:((⟨blk,off,spot⟩:Addr).add (0 * P.cellsOf e)).add 0=⟨blk,off,spot⟩:=by rw[Edf];rfl
   rw[e1] at h00;rw[h00,Eaa omg];rfl
  have hsp:spot=none:=by
   unfold World.cell? at hcell;cases spot with
   | none=>rfl
   | some s=>split at hcell<;>simp at hcell
  subst hsp;have hblk:blk<w.heap.size:=by
   rcases Eds blk w.heap.size with h | h
   ·exact h
   ·unfold World.cell? at hcell;simp only[Array.getElem?_eq_none h] at hcell;simp at hcell
  have hreach:reachBytes<=140737488355328:=by decide
  have hlen:len<=140737488355328:=by
   have h1:=hz ((len+(m - len)) * P.bytesOf e) (by simp[DataW.weights,ht]);have h2:len<=(len+(m - len)) * P.bytesOf e:=by
    have:(len+(m - len)) * 1<=(len+(m - len)) * P.bytesOf e:=Ecc _ hb;omega
   omega
  obtain ⟨p,hp,hq⟩:=Jkw (Q:=fun i x=>Good x/\w.cells? 0 ((⟨blk,off,none⟩:Addr).add (i * c)) c=some (vals x)) len fun i hi=>by
   obtain ⟨cs',h1,h2⟩:=hx i omg;rw[hc] at h1;obtain ⟨x,hg,rfl⟩:=each n cs' _ h2 (fun k hk=>hz k (by
    simp only[DataW.weights,ht,Eak,Eax];exact .inr (.inl (J8 (Eap.2 ⟨i,List.mem_range.2 hi,rfl⟩) hk))))
   exact ⟨x,hg,h1⟩
  refine ⟨_,p,rfl,omg,fun a ha=>?_,?_⟩
  ·obtain ⟨i,hi⟩:=Ebz ha;exact (hq i a hi).1
  ·have e2:len=(p.map cells).length:=by simp[hp]
   have key:=PRep.sl (w:=w) (Im:=Ja w) blk off m c (p.map cells) (by rw[<- e2];exact hl) hblk (fun i j=>match p[i]? with | some x=>(vals x).getD j undef | none=>undef)
    (fun r hr=>by obtain ⟨x,_,rfl⟩:=Eap.1 hr;exact hcl x)
    (fun r hr=>by obtain ⟨x,_,rfl⟩:=Eap.1 hr;exact hsc x)
    (fun i hi j hj=>by
     rw[<- e2] at hi;obtain ⟨x,hx'⟩:∃ x,p[i]? = some x:=⟨_,Eaa omg⟩
     have h1:=(World.cells?_some (hq i x hx').2).2.2 j hj;rw[Go.Deep.add_add,Jka,<- Eb2] at h1;rw[h1,hx'];have h3:j<(vals x).length:=by rw[hvl];exact hj
     simp[Eaj,Eaa h3])
    (fun i r j q hr hq'=>by
     rw[Eam] at hr;cases hx':p[i]? with
     | none=>rw[hx'] at hr;cases hr
     | some x =>
      rw[hx'] at hr;obtain rfl:=Ebd hr;exact hrep x j q (hq i x hx').1 hq')
   rw[<- e2] at key;exact key
theorem Xx {α H:Type} {enc:TypeId×Value->H} {P:Program} {w:World} {t e:TypeId} {c:Nat} (vals:α->List Value) (cells:α->List PV) (Good:α->Prop)
  (ht:P.underlying t=some (.slice e)) (hc:P.cellsOf e=c) (hb:0<P.bytesOf e) (hvl:∀ x,(vals x).length=c) (hcl:∀ x,(cells x).length=c) (hsc:∀ x,∀ p∈cells x,p.scalar=true)
  (hrep:∀ (Im:Nat->Prop) x j p,(cells x)[j]? = some p->PRep w Im ((vals x).getD j undef) p)
  (each:∀ (fuel:Nat) (cs:List Value) (y:DataW H×List MemPlace),DataW.trod enc P w 0 (fun _=>true) true fuel e cs=some y->(∀ n∈y.1.weights P e,n<=reachBytes)->∃ x,Good x/\cs=vals x)
  {b:Nat} {v:Value} (hok:Cell.okWide P w .any b t v) {fuel:Nat} {x:DataW H×List MemPlace} (h:DataW.trod enc P w 0 (fun _=>true) true fuel t [v]=some x) (hz:∀ n∈x.1.weights P t,n<=reachBytes) (hc0:0<c:=by decide) :
  ∃ p:List α,p.length<=140737488355328/\(∀ a∈p,Good a)/\PRep w (Ja w) v (.sl (p.map cells)):=by
 obtain ⟨v',p,e1,h1,h2,h3⟩:=openIn vals cells Good ht hc hc0 hb hvl hcl hsc (fun x j p _ h=>hrep _ x j p h) each h hz;cases e1;exact ⟨p,h1,h2,h3⟩
end Go.LX
namespace Go.LX
open Go Go.Proofs Go.Proofs.Tryz Go.RowKit Go.ChangeShapes Go.WideShapes Go.ChangeAt Go.Lib
open Go.Proofs.YtaghbedfogiopaaGreatDoor
theorem Mc {P:Program} {w:World} {x:String×DataW Unit} {l:List (String×DataW Unit)} (h:laidMet P (x :: l) w):laidMet P l w:=by
 obtain ⟨ps,h1,h2,h3⟩:=h;obtain ⟨n,d⟩:=x;obtain ⟨g,t,cs,fuel,p,q,_,_,_,_,h5,rfl⟩:=h1;exact ⟨q,h5,(Eck.1 h2).2.1,fun b off hb=>h3 b off (Ecb _ hb)⟩
theorem Jc3 (x:ByteArray):(⟨⟨x.data.toList⟩⟩:ByteArray)=x:=by rcases x with ⟨⟨l⟩⟩;rfl
theorem T8 (s:ByteArray):s.data.toList.length=s.size:=by simp
theorem Jci {P:Program} {w:World} {sp:Nat->Bool} {t:TypeId} {cs:List Value} {nm:String} {d:DataW Unit} {p:List MemPlace} {u:TypeDesc} (ht:P.underlying t=some u) (hu:∃ m,u=.interface m) :
  ∀ {fuel:Nat},DataW.trod (fun _=>()) P w 0 sp false fuel t cs=some (.iface nm d,p)->∃ te pe,cs=[.iface te pe]
 | 0,h=>by simp[DataW.trod] at h
 | fuel+1,h=>by
  obtain ⟨m,rfl⟩:=hu;rcases cs with _ | ⟨c,_ | ⟨c2,cs⟩⟩
  ·simp[DataW.trod,ht] at h
  ·cases c<;>first|exact ⟨_,_,rfl⟩ | (simp[DataW.trod,ht] at h;done)
  ·simp[DataW.trod,ht] at h
theorem Xq {w:World} {n:String} {nm:String} {d:DataW Unit} {g:Nat} {t:TypeId} {u:TypeDesc} (h:VarReads Tryz.prog w n (.iface nm d)) (hg:Tryz.prog.globalNamed n=some g) (ht:(Tryz.prog.globals[g]?).map (·.type)=some t) (hu:Tryz.prog.underlying t=some u) (hi:∃ m,u=.interface m):Jk8 g w:=by
 obtain ⟨g',t',cs,fuel,p,h1,h2,h3,h4⟩:=h;obtain rfl:=Ebd (hg.symm.trans h1);obtain rfl:=Ebd (ht.symm.trans h2);obtain ⟨te,pe,e⟩:=Jci hu hi h4;refine ⟨te,pe,?_⟩;rw[World.var?_cell hg h3 0,<- Ecl,e];rfl
theorem gOwn:ownKnob Tryz.prog.godebug=none:=kr
theorem L2:laidOutB Tryz.prog=true:=kr
theorem gFirst:Go.Pinned.utf8First=firstData:=kr
theorem u8T:U8Types Tryz.prog Tryz_lays197_renX:=⟨by kernel_rfl,by kernel_rfl,by kernel_rfl,by kernel_rfl⟩
theorem u8X:U8Extra Tryz.prog Tryz_lays197_renX:=⟨by kernel_rfl,by kernel_rfl,by kernel_rfl,by kernel_rfl,by kernel_rfl,by kernel_rfl,by kernel_rfl⟩
def tz64:List Int:=Lib.deBruijn64tab.map fun n:Nat=>(n:Int)
theorem Kv {W:World} {n:String} {d:DataW Unit} {g:Nat} (h:VarReads Tryz.prog W n d) (hg:Tryz.prog.globalNamed n=some g):g<W.heap.size:=by
 obtain ⟨g',t',cs,fuel,p,h1,_,h3,_⟩:=h;obtain rfl:=Ebd (hg.symm.trans h1);unfold World.var? at h3;rw[hg] at h3;simp only[Option.bind_some] at h3;rcases Eds g W.heap.size with h | h
 ·exact h
 ·rw[Array.getElem?_eq_none h] at h3;cases h3
theorem Jdp {W:World} (h:laidMetH Tryz.prog Rows.evalTellsRow.laid W):QuoteG W (Ja W):=by
 have h0:laidMet Tryz.prog Rows.evalTellsRow.laid W:=h;have h1:=Mc h0;have h2:=Mc h1;have r1:VarReads Tryz.prog W "unicode/utf8.first" Rows.laid_unicode_utf8_first:=laidMet.reads h0 (by simp[Rows.evalTellsRow]);have r2:VarReads Tryz.prog W "unicode/utf8.acceptRanges" Rows.laid_unicode_utf8_acceptRanges:=laidMet.reads h0 (by simp[Rows.evalTellsRow]);have r3:VarReads Tryz.prog W "strconv.ErrSyntax" Rows.laid_strconv_ErrSyntax:=laidMet.reads h0 (by simp[Rows.evalTellsRow]);have r4:VarReads Tryz.prog W "strconv.ErrRange" Rows.laid_strconv_ErrRange:=laidMet.reads h0 (by simp[Rows.evalTellsRow]);have r5:VarReads Tryz.prog W "math/bits.deBruijn64tab" Rows.laid_math_bits_deBruijn64tab:=laidMet.reads h0 (by simp[Rows.evalTellsRow]);have r6:VarReads Tryz.prog W "internal/strconv.uint64pow10" Rows.laid_internal_strconv_uint64pow10:=laidMet.reads h0 (by simp[Rows.evalTellsRow]);refine ⟨?_,?_,?_,?_,?_,Kv r1 kr,Kv r2 kr,Kv r3 kr,Kv r4 kr,Kv r5 kr,Kv r6 kr⟩
 ·have f1:VarReads Tryz.prog W "unicode/utf8.first" firstData:=by
   rw[<- gFirst];exact laidMet.reads h0 (by simp[Rows.evalTellsRow,Rows.laid_unicode_utf8_first])
  have f2:VarReads Tryz.prog W "unicode/utf8.acceptRanges" acceptData:=laidMet.reads h0 (by
   rw[show (acceptData:DataW Unit)=Rows.laid_unicode_utf8_acceptRanges by kernel_rfl];simp[Rows.evalTellsRow])
  exact utf8Tabs_of_readsT u8T u8X f1 f2
 ·exact Xq r3 kr kr underlying187 ⟨_,rfl⟩
 ·exact Xq r4 kr kr underlying187 ⟨_,rfl⟩
 ·have ht:TabIs Tryz.prog W "math/bits.deBruijn64tab" .u8 tz64:=tabIs_of_head (g:=7) (t:=260) (e:=5) (n:=64) kr kr kr kr kr kr (k:=.u8) (zs:=tz64) h1;intro j hj;have:=ht.cell (g:=7) kr j (by simpa[tz64] using hj);rw[this];simp[tz64,Eaj,hj]
 ·exact tabIs_of_head (g:=2) (t:=229) (e:=191) (n:=20) kr kr kr kr kr kr (k:=.u64) (zs:=Lib.pow10Tab) h2
def Yw (d:DataW Unit):List Value:=match d with
 | .agg l=>l.flatMap fun x=>match x with
  | .lit (.int k n)=>[Value.int k n]
  | .agg l'=>l'.flatMap fun y=>match y with
   | .lit (.int k n)=>[Value.int k n]
   | _=>[]
  | _=>[]
 | _=>[]
noncomputable def D9 (os:Os):World :=
 let N:=(World.settled Tryz.prog os).heap.size;let w0:=World.holding Tryz.prog os ⟨#[
  .cells #[.string ⟨#[118,97,108,117,101,32,111,117,116,32,111,102,32,114,97,110,103,101]⟩] 264,.cells #[.string ⟨#[105,110,118,97,108,105,100,32,115,121,110,116,97,120]⟩] 264],#[],[]⟩
 let put (h:Array Obj) (g:Nat) (cs:Array Value):Array Obj:=h.modify g fun
  | .cells _ t frozen=>.cells cs t frozen
  | o=>o
 let h1:=put w0.heap 6 (Yw Rows.laid_math_bits_deBruijn32tab).toArray;let h2:=put h1 7 (Yw Rows.laid_math_bits_deBruijn64tab).toArray;let h3:=put h2 2 (Yw Rows.laid_internal_strconv_uint64pow10).toArray;let h4:=put h3 1 (Yw Rows.laid_unicode_utf8_acceptRanges).toArray;let h5:=put h4 5 #[.iface 262 (.pointer (some ⟨N,0,none⟩))];let h6:=put h5 4 #[.iface 262 (.pointer (some ⟨N+1,0,none⟩))];let h7:=put h6 0 (Yw Rows.laid_unicode_utf8_first).toArray
 { w0 with heap:=h7 }
theorem Ma (os:Os) (args:Array Value):laidMet Tryz.prog Rows.evalTellsRow.laid ((D9 os).forCall (fun _ _=>0) ⟨#[],args,[]⟩).memory :=
 laidMet_of_run' 8 kr kr
theorem trod_string {H:Type} {enc:TypeId×Value->H} {P:Program} {w:World} {base:Nat} {sp:Nat->Bool} {held:Bool} {t:TypeId} {s:List UInt8} {d:DataW H} {p:List MemPlace} (ht:P.underlying t=some .string) (h:DataW.Trod enc P w base sp held t (.string ⟨⟨s⟩⟩) d p):d=.lit (.string s):=by
 obtain ⟨fuel,h⟩:=h;cases fuel with
 | zero=>simp[DataW.trod] at h
 | succ f =>
  simp only[DataW.trod,ht,Value.cells] at h;split at h
  ·simp at h;exact h.1.symm
  ·cases h
theorem Kk0:Tryz.prog.cellsOf 4=1:=kr
theorem cStr:Tryz.prog.cellsOf 9=1:=kr
theorem cInt:Tryz.prog.cellsOf 3=1:=kr
theorem Kf7:Tryz.prog.cellsOf 36=6:=kr
theorem bNode:0<Tryz.prog.bytesOf 36:=by decide +kernel
def Step.vals (x:Step):List Value:=[.bool x.part,.string ⟨⟨x.name⟩⟩,.int .i64 x.n]
def Node.vals (n:Node):List Value:=[.int .i64 n.kind,.int .i64 n.many,.string ⟨⟨n.name⟩⟩,.string ⟨⟨n.s⟩⟩,.bool n.neg,.int .i64 n.e]
theorem Jly {H:Type} {enc:TypeId×Value->H} {w:World} (fuel:Nat) (cs:List Value) (y:DataW H×List MemPlace) (h:DataW.trod enc Tryz.prog w 0 (fun _=>true) true fuel 36 cs=some y) (_:∀ n∈y.1.weights Tryz.prog 36,n<=reachBytes) :
  ∃ x:Node,EFit x/\cs=x.vals:=by
 obtain ⟨xs,n,_,rfl,hl,hlen,hf⟩:=DataW.trod_struct underlying36 h;rw[Kf7] at hl
 match xs,hlen,cs,hl with
 | [y0,y1,y2,y3,y4,y5],_,[a0,a1,a2,a3,a4,a5],_ =>
  have g0:=hf 0 _ rfl;have g1:=hf 1 _ rfl;have g2:=hf 2 _ rfl;have g3:=hf 3 _ rfl;have g4:=hf 4 _ rfl;have g5:=hf 5 _ rfl;simp only[Kk0,cStr,cInt,Ebn,Ecd,Ebv,Eb7,List.getElem?_cons_zero,List.getElem?_cons_succ] at g0 g1 g2 g3 g4 g5;obtain ⟨x0,e0,rfl,_⟩:=DataW.trod_int underlying3 g0;obtain ⟨x1,e1,rfl,_⟩:=DataW.trod_int underlying3 g1;obtain ⟨x2,e2,rfl,z2⟩:=DataW.trod_string underlying9 g2;obtain ⟨x3,e3,rfl,z3⟩:=DataW.trod_string underlying9 g3;obtain ⟨x4,e4,rfl⟩:=DataW.trod_bool underlying4 g4;obtain ⟨x5,e5,rfl,z5⟩:=DataW.trod_int underlying3 g5;cases e0;cases e1;cases e2;cases e3;cases e4;cases e5;have hm:maxLen=9223372036854775807:=by decide
  have k1:IntKind.i64.min = -9223372036854775808:=by decide
  have k2:IntKind.i64.max=9223372036854775807:=by decide
  simp only[Lit.wf,Ebb,decide_eq_true_eq,k1,k2] at z5;have s2:=T8 x2;have s3:=T8 x3;refine ⟨⟨x0,x1,x2.data.toList,x3.data.toList,x4,x5⟩,⟨?_,?_,z5.1,z5.2⟩,?_⟩
  ·show x3.data.toList.length<=_;omega
  ·show x2.data.toList.length<=_;omega
  ·simp only[Node.vals,Jc3]
theorem Ji6 (w:World) (Im:Nat->Prop) (x:Node) (j:Nat) (p:PV) (h:x.cells[j]? = some p):PRep w Im (x.vals.getD j undef) p:=by
 match j,h with
 | 0,h=>cases h;exact PRep.int _ _
 | 1,h=>cases h;exact PRep.int _ _
 | 2,h=>cases h;exact PRep.str _
 | 3,h=>cases h;exact PRep.str _
 | 4,h=>cases h;exact PRep.bool _
 | 5,h=>cases h;exact PRep.int _ _
 | j+6,h=>simp[Node.cells] at h
theorem Vt {H:Type} {enc:TypeId×Value->H} {w:World} {b:Nat} {v:Value} (hok:Cell.okWide Tryz.prog w .any b 25 v) {fuel:Nat} {x:DataW H×List MemPlace} (h:DataW.trod enc Tryz.prog w 0 (fun _=>true) true fuel 25 [v]=some x) (hz:∀ n∈x.1.weights Tryz.prog 25,n<=reachBytes) :
  ∃ p:List Node,ValFit p/\PRep w (Ja w) v (.sl (valL p)):=by
 obtain ⟨p,h1,h2,h3⟩:=Xx Node.vals Node.cells EFit underlying25 Kf7 bNode (fun _=>rfl) (fun _=>rfl) (fun x p hp=>by simp[Node.cells] at hp;rcases hp with rfl | rfl | rfl | rfl | rfl | rfl<;>rfl) (Ji6 w) Jly hok h hz;exact ⟨p,⟨h1,h2⟩,h3⟩
theorem Jkh {P:Program} {W:World} {r:Reach} {b:Nat} {t e:TypeId} {v:Value} (ht:P.underlying t=some (.slice e)) (h:Cell.okWide P W r b t v):v.cells.toList=[v]:=by
 simp only[Cell.okWide,Cell.ok,ht] at h;cases v<;>first|rfl | (simp at h;done)
theorem J0 {H:Type} {P:Program} {ts:List TypeId} {ds:List (DataW H)} (hz:(DataW.weightsEach P ts ds).all (· <= reachBytes)=true) {j:Nat} {t:TypeId} {d:DataW H} (h1:ts[j]? = some t) (h2:ds[j]? = some d):∀ n∈d.weights P t,n<=reachBytes:=fun n hn=>by
 simpa using Eby.1 hz n (DataW.weights_mem_each h1 h2 n hn)
theorem N3 {H:Type} {enc:TypeId×Value->H} {w:World} {b:Nat} {v:Value} {d:DataW H} {q:List MemPlace} {ts:List TypeId} {ds:List (DataW H)} (hok:Value.okWide Tryz.prog w .any b 25 v) (h:DataW.Trod enc Tryz.prog w 0 (fun _=>true) true 25 v d q)
  (hz:(DataW.weightsEach Tryz.prog ts ds).all (· <= reachBytes)=true) {j:Nat} (h1:ts[j]? = some 25) (h2:ds[j]? = some d):∃ p:List Node,ValFit p/\PRep w (Ja w) v (.sl (valL p)):=by
 simp only[Value.okWide,underlying25] at hok;obtain ⟨fuel,h⟩:=h;rw[Jkh underlying25 hok] at h;exact Vt hok h (J0 hz h1 h2)
theorem Jo3:Tryz.prog.cellsOf 33=1:=kr
theorem J5d {P:Program} (h:P.funcs.any Func.goes=false) (f:FuncId):P.goes f=false:=by
 unfold Program.goes;rw[h,Bool.and_false,Bool.or_false,List.any_eq_false];intro g _ hg;cases hf:P.funcs[g]? with
 | none=>rw[hf] at hg;cases hg
 | some fn =>
  rw[hf] at hg;rw[Array.any_eq_false] at h;obtain ⟨i,rfl⟩:=Ea7.1 hf;exact h g i hg
theorem goesBy_none {P:Program} (h:P.funcs.any Func.goes=false) (c:OpenClaim):false=c.goesBy P:=by
 unfold OpenClaim.goesBy Program.goesAt Program.goesFrom;have h1:(P.funcNamed c.func).any P.goes=false:=by
  cases P.funcNamed c.func with
  | none=>rfl
  | some f=>exact J5d h f
 rw[h1,Bool.false_or];split
 ·rfl
 ·symm;rw[List.any_eq_false];intro g _ hg;rw[J5d h g] at hg;cases hg
theorem noGoes:Tryz.pinned.checked.prog.funcs.any Func.goes=false:=kr
end Go.LX
namespace Go.LX
def Jr9 (s:List UInt8):List UInt8:=s.dropWhile (· == 48)
def Jqy (s:List UInt8):List UInt8:=(s.reverse.dropWhile (· == 48)).reverse
theorem Jwn {c:UInt8}:c.toNat=48 ↔ c=48:=by
 constructor
 ·intro h;exact UInt8.toNat_inj.1 (by simpa using h)
 ·intro h;subst h;rfl
theorem Jy3 (c:UInt8) (l:List UInt8):at_ (c :: l) 0=c.toNat:=by simp[at_]
theorem Jyx (l:List UInt8) (c:UInt8):at_ (l ++ [c]) l.length=c.toNat:=by simp[at_,Eaj]
theorem J68 {u:List UInt8} (h:at_ u 0≠48):Jr9 u=u:=by
 cases u with
 | nil=>rfl
 | cons c l =>
  rw[Jy3] at h;have:c≠48:=fun hc=>h (Jwn.2 hc)
  simp[Jr9,List.dropWhile_cons,this]
theorem J9r (u:List UInt8):(Jr9 u).length<=u.length:=by
 exact (List.dropWhile_sublist _).length_le
theorem J6p {u:List UInt8} (h:0<u.length):∃ l c,u=l ++ [c]:=by
 have hne:u≠[]:=by intro hu;subst hu;simp at h
 exact ⟨u.dropLast,u.getLast hne,(Ecm hne).symm⟩
theorem Jtd (l:List UInt8) (c:UInt8):Jqy (l ++ [c])=if c=48 then Jqy l else l ++ [c]:=by
 simp only[Jqy,List.reverse_append,List.reverse_cons,List.reverse_nil,List.nil_append,Ebh,List.dropWhile_cons];by_cases h:c=48
 ·simp[h]
 ·simp[h]
theorem J8u {u:List UInt8} (h0:0<u.length) (h:at_ u (u.length - 1)=48):Jqy (u.take (u.length - 1))=Jqy u:=by
 obtain ⟨l,c,rfl⟩:=J6p h0;have e:(l ++ [c]).length - 1=l.length:=by simp
 rw[e] at h ⊢;rw[Jyx,Jwn] at h;rw[Jtd,if_pos h];simp
theorem J69 {u:List UInt8} (h0:0<u.length) (h:at_ u (u.length - 1)≠48):Jqy u=u:=by
 obtain ⟨l,c,rfl⟩:=J6p h0;have e:(l ++ [c]).length - 1=l.length:=by simp
 rw[e,Jyx] at h;rw[Jtd,if_neg (fun hc=>h (Jwn.2 hc))]
theorem Jx4 (u:List UInt8):(Jqy u).length<=u.length:=by
 have:=(List.dropWhile_sublist (l:=u.reverse) (fun x=>x == 48)).length_le;simpa[Jqy] using this
theorem Kck {u:List UInt8} {n i:Nat} (h:i<n):at_ (u.take n) i=at_ u i:=by
 simp[at_,Eaj,Eas,h]
theorem J3k:∀ (n:Nat) (u:List UInt8),u.length=n->0<u.length->at_ u 0≠48->0<(Jqy u).length
 | 0,u,hn,h0,_=>by omega
 | n+1,u,hn,h0,h=>by
  by_cases hl:at_ u (u.length - 1)=48
  ·have hn0:1<u.length:=by
    by_cases h1:u.length=1
    ·rw[h1] at hl;exact absurd hl h
    ·omega
   rw[<- J8u h0 hl];exact J3k n _ (by simp;omega) (by simp;omega) (by rw[Kck omg];exact h)
  ·rw[J69 h0 hl];exact h0
end Go.LX
namespace Go.LX
open Go Go.RowKit Go.Proofs Go.Lib
def J7r (c:UInt8):Bool:=decide (48<=c.toNat) && decide (c.toNat<=57)
def Jqr (s:List UInt8):Bool:=s.all J7r
def figR (r:Nat):Bool:=decide (48<=r) && decide (r<=57)
theorem J3u {n b0 b1 b2 b3:Nat} (h:128<=b0):128<=(decodeN n b0 b1 b2 b3).1:=by
 unfold decodeN
 repeat' split
 all_goals first|omega | (simp_all;done)|(simp_all;omega)
theorem J88 {s:ByteArray} {pos:Nat} (h:figR (Utf8.decode s pos).1=true):figR (s.data.toList.getD pos 0).toNat=true/\(Utf8.decode s pos).2=1:=by
 rw[decode_N] at h ⊢;by_cases hb:(s.data.toList.getD pos 0).toNat<128
 ·rw[decodeN_ascii _ _ _ _ _ hb] at h ⊢;exact ⟨h,rfl⟩
 ·have:=J3u (n:=s.data.toList.length - pos) (b1:=(s.data.toList.getD (pos+1) 0).toNat) (b2:=(s.data.toList.getD (pos+2) 0).toNat) (b3:=(s.data.toList.getD (pos+3) 0).toNat) (by omega:128<=(s.data.toList.getD pos 0).toNat);simp only[figR,Ebb,decide_eq_true_eq] at h;omega
theorem Kao {s:ByteArray} {pos:Nat} (h:figR (s.data.toList.getD pos 0).toNat=true):Utf8.decode s pos=((s.data.toList.getD pos 0).toNat,1):=by
 rw[decode_N,decodeN_ascii];simp only[figR,Ebb,decide_eq_true_eq] at h;omega
theorem J70 {s:ByteArray}:∀ (f pos:Nat),s.size<=pos+f->idxFuncFrom figR false s f pos = -1->∀ j,pos<=j->j<s.size->figR (s.data.toList.getD j 0).toNat=true
 | 0,pos,hf,_,j,h1,h2=>by omega
 | f+1,pos,hf,h,j,h1,h2=>by
  unfold idxFuncFrom at h;rw[if_pos omg] at h;split at h
  ·omega
  ·rename_i hp;have hp':figR (Utf8.decode s pos).1=true:=by simpa using hp
   obtain ⟨g1,g2⟩:=J88 hp';by_cases hj:j=pos
   ·subst hj;exact g1
   ·rw[g2] at h;exact J70 f (pos+1) omg h j omg h2
theorem J7o {s:ByteArray}:∀ (f pos k:Nat),idxFuncFrom figR false s f pos=(k:Int)->k<s.size/\figR (s.data.toList.getD k 0).toNat=false
 | 0,pos,k,h=>by simp[idxFuncFrom] at h
 | f+1,pos,k,h=>by
  unfold idxFuncFrom at h;split at h
  ·rename_i hlt;split at h
   ·rename_i hp;have hk:pos=k:=by omega
    subst hk;refine ⟨hlt,?_⟩;cases hb:figR (s.data.toList.getD pos 0).toNat with
    | false=>rfl
    | true =>
     rw[Kao hb] at hp;simp only at hp;rw[hb] at hp;cases hp
   ·exact J7o f _ k h
  ·omega
theorem J3o {l:List UInt8} (hl:l≠[]) (h:figR (decodeLastL l).1=true):figR (l.getD (l.length - 1) 0).toNat=true/\(decodeLastL l).2=1:=by
 unfold decodeLastL at h ⊢;rw[if_neg hl] at h ⊢;split
 ·rename_i hb;rw[if_pos hb] at h;exact ⟨h,rfl⟩
 ·rename_i hb;rw[if_neg hb] at h;simp only at h;split at h
  ·rename_i hd;exfalso;have hlen:0<l.length:=Ecj.2 hl;have hfig:(decodeL (l.drop (lastStart l))).1<128:=by simp[figR] at h;omega
   generalize hq:l.drop (lastStart l)=q at hfig hd;cases q with
   | nil =>
    have:=congrArg List.length hq;simp only[Ea5,Ea8] at this;rw[show (decodeL []).2=1 from by decide] at hd;omega
   | cons c r =>
    have hc:c.toNat<128:=by
     by_cases hc:c.toNat<128
     ·exact hc
     ·exfalso;simp only[decodeL] at hfig;rw[decode_N] at hfig;simp only[List.getD_cons_zero] at hfig;have:=fun n b1 b2 b3=>J3u (n:=n) (b1:=b1) (b2:=b2) (b3:=b3) (by omega:128<=c.toNat)
      exact absurd hfig (Nat.not_lt.2 (this _ _ _ _))
    rw[decodeL_ascii c r hc] at hd;simp only at hd;have hlr:r=[]:=by
     have:=congrArg List.length hq;simp at this;exact Ean omg
    subst hlr;have e:l.getD (l.length - 1) 0=c:=by
     have h1:l[lastStart l]? = some c:=by
      have:=congrArg (fun x=>x[0]?) hq;simpa using this
     have h2:l.length - 1=lastStart l:=by omega
     rw[h2];simp[Eaj,h1]
    rw[e] at hb;exact hb hc
  ·exfalso;simp[figR,Utf8.runeError] at h
theorem J5a {s:ByteArray}:∀ (f i:Nat),i<=f->i<=s.size->lastIdxFuncFrom figR false s f i = -1->∀ j,j<i->figR (s.data.toList.getD j 0).toNat=true
 | 0,i,hf,_,h,j,hj=>by omega
 | f+1,i,hf,hs,h,j,hj=>by
  unfold lastIdxFuncFrom at h;rw[if_pos omg] at h;split at h
  ·omega
  ·rename_i hp;have hsz:s.data.toList.length=s.size:=by simp
   have hl:(s.data.toList.take i).length=i:=by rw[Eay];omega
   have hp':figR (decodeLastL (s.data.toList.take i)).1=true:=by simpa using hp
   obtain ⟨g1,g2⟩:=J3o (by intro hn;rw[hn] at hl;simp at hl;omega) hp';rw[hl] at g1;rw[g2] at h;by_cases hji:j=i - 1
   ·subst hji;have:(s.data.toList.take i).getD (i - 1) 0=s.data.toList.getD (i - 1) 0:=by
     simp[Eaj,Eas,show i - 1<i by omega]
    rw[<- this];exact g1
   ·exact J5a f (i - 1) omg omg h j omg
theorem J0s {l:List UInt8}:Jqr l=true ↔ ∀ j,j<l.length->figR (l.getD j 0).toNat=true:=by
 simp only[Jqr,Eby];constructor
 ·intro h j hj;have:=h l[j] (Eb1 hj);simpa[Eaj,hj,figR,J7r] using this
 ·intro h x hx;obtain ⟨j,hj,rfl⟩:=Eba hx;simpa[Eaj,hj,figR,J7r] using h j hj
theorem Jun (s:ByteArray):s.data.toList.length=s.size:=by simp
theorem J36 (s:ByteArray):((trimF figR s).data.toList == [])=Jqr s.data.toList:=by
 unfold trimF;by_cases hk:idxFunc figR false s = -1
 ·have h1:Jqr s.data.toList=true:=by
   rw[J0s];intro j hj;rw[Jun] at hj;exact J70 s.size 0 omg hk j (Eau _) hj
  rw[h1];unfold trimLeftF;rw[if_pos hk];unfold trimRightF;simp[ByteArray.data_extract]
 ·obtain ⟨k,hk2⟩:∃ k:Nat,idxFunc figR false s=k:=by
   rcases idxFunc_range figR false s with h | ⟨h,_⟩
   ·exact absurd h hk
   ·exact ⟨_,(Int.toNat_of_nonneg h).symm⟩
  obtain ⟨h1,h2⟩:=J7o _ _ _ hk2;have h3:Jqr s.data.toList=false:=by
   cases hf:Jqr s.data.toList with
   | false=>rfl
   | true =>
    rw[J0s] at hf;rw[hf k (by rw[Jun];exact h1)] at h2;cases h2
  rw[h3];have ht:trimLeftF figR s=s.extract k s.size:=by
   unfold trimLeftF;rw[if_neg hk,hk2];simp
  rw[ht];generalize hte:s.extract k s.size=t;have htl:t.data.toList=s.data.toList.drop k:=by
   rw[<- hte];simp[ByteArray.data_extract,Array.toList_extract];rw[Eae sm]
  have hts:t.size=s.size - k:=by rw[<- Jun,htl,Ea5,Jun]
  have h0:figR (t.data.toList.getD 0 0).toNat=false:=by
   rw[htl];simpa[Eaj,Eco] using h2
  have hlast:0<=lastIdxFunc figR false t:=by
   rcases lastIdxFuncFrom_range figR false t t.size t.size with h | ⟨h,_⟩
   ·have:=J5a t.size t.size (Eah _) (Eah _) h 0 omg;rw[h0] at this;cases this
   ·exact h
  have hpos:1<=rightEndF figR t:=by
   unfold rightEndF;rw[if_pos hlast];unfold decodeGoB;by_cases hz:(lastIdxFunc figR false t).toNat=0
   ·rw[hz];have hsz:(t.extract 0 t.size).size=t.size:=by simp
    rw[if_neg (by rw[hsz];omega)];have:=decodeN_ge1;rw[decode_N];have:=this ((t.extract 0 t.size).data.toList.length - 0) ((t.extract 0 t.size).data.toList.getD 0 0).toNat ((t.extract 0 t.size).data.toList.getD (0+1) 0).toNat ((t.extract 0 t.size).data.toList.getD (0+2) 0).toNat ((t.extract 0 t.size).data.toList.getD (0+3) 0).toNat;omega
   ·omega
  have:(trimRightF figR t).data.toList≠[]:=by
   intro hn;unfold trimRightF at hn;have e:(t.extract 0 (rightEndF figR t)).data.toList=t.data.toList.take (rightEndF figR t):=by simp[ByteArray.data_extract,Array.toList_extract]
   rw[e] at hn;have hl:=congrArg List.length hn;rw[Eay,Jun] at hl;simp only[Ea8] at hl;omega
  simpa using this
end Go.LX
namespace Go.LX

end Go.LX
namespace Go.LX
open Go Go.Proofs
abbrev Node.pv (n:Node):List PV:=n.cells
theorem Jth (n:Node):n.pv=[.int .i64 n.kind,.int .i64 n.many,.str n.name,.str n.s,.bool n.neg,.int .i64 n.e]:=(rfl)
def J1b (many e:Int):Bool:=decide (-1000<=e) && decide (e<=1000) && decide (many+e<=1000)
theorem J41 {m e:Int}:J1b m e=false ↔ e < -1000\/1000<e\/1000<m+e:=by
 simp only[J1b];by_cases h1:-1000<=e<;>by_cases h2:e<=1000<;>by_cases h3:m+e<=1000<;>simp[h1,h2,h3]<;>omega
def numRight (n:Node):Bool :=
 if ¬ n.kind=3 then false else if ¬ n.many=0 then false else if ¬ n.name.length=0 then false else if Jqr n.s=false then false else if 100<(n.s.length:Int) then false else
 if n.e < -1000 then false else if 1000<n.e then false else if 1000<(n.s.length:Int)+n.e then false else
 if n.s.length=0 then (if n.neg=false then n.e == 0 else false) else (if ¬ (at_ n.s 0:Int)=48 then ((at_ n.s (n.s.length - 1):Int) != 48) else false)
def cmpI (a b:Int):Int:=if a<b then -1 else if b<a then 1 else 0
def cmpS (a b:List UInt8):Int:=if Op.bytesLess a b=true then -1 else if (Op.bytesLess a b || a == b)=false then 1 else 0
def Jt3:Node:=⟨0,0,[],[],false,0⟩
def make (neg:Bool) (s:List UInt8) (e:Int):Node×Int :=
 if Jqr s=false then (Jt3,4) else
 if (Jr9 s).length=0 then ({ Jt3 with kind:=3 },0) else
 if e < -100000000 then (Jt3,2) else if 100000000<e then (Jt3,2) else
 let t:=Jqy (Jr9 s);let e':=e+((Jr9 s).length - t.length)
 if 100<(t.length:Int) then (Jt3,2) else if e' < -1000 then (Jt3,2) else if 1000<(t.length:Int)+e' then (Jt3,2) else
 ({ Jt3 with kind:=3,s:=t,neg:=neg,e:=e' },0)
def Jxi (a b:Node):Int :=
 if a.s.length=0 then cmpI a.s.length b.s.length else if b.s.length=0 then cmpI a.s.length b.s.length else
 if ¬ cmpI (a.s.length+a.e) (b.s.length+b.e)=0 then cmpI (a.s.length+a.e) (b.s.length+b.e) else cmpS a.s b.s
def Jwe (a b:Node):Int :=
 if a.neg=true/\b.neg=false then -1 else if b.neg=true/\a.neg=false then 1 else if a.neg=true then Jxi b a else Jxi a b
structure Node.small (n:Node):Prop where
 s:n.s.length<=1000000
 e1:-1000000<=n.e
 e2:n.e<=1000000
def Js1 (n:Node) (p:Int):Int :=
 let i:=(n.s.length:Int) - 1 - (p - n.e)
 if i<0 then 0 else if (n.s.length:Int)<=i then 0 else ((at_ n.s i.toNat:Int) - 48) % 256
def Jtn (f g:Int->Int) (side:Int):Nat->Int->Int
 | 0,_=>0
 | n+1,p=>if f p<g p then -side else if g p<f p then side else Jtn f g side n (p - 1)
def Juc (a b:Node):Int :=
 let side:=if a.neg=true then -1 else 1
 if a.neg != b.neg then side else
 let top:=max ((a.s.length:Int)+a.e) (b.s.length+b.e)
 Jtn (Js1 a) (Js1 b) side (top - min a.e b.e+1).toNat top
def J9n (n:Node):List UInt8:=if n.neg=true then [45] else []
def Keq (n:Node):List UInt8 :=
 if n.s.length=0 then [48] else
 if 0<=n.e/\(n.s.length:Int)+n.e<=20 then J9n n ++ n.s ++ Lib.repeatL [48] n.e.toNat else
 if n.e<0/\-20<=n.e then
  J9n n ++ (Lib.repeatL [48] (1 - n.e - n.s.length).toNat ++ n.s).take (((Lib.repeatL [48] (1 - n.e - n.s.length).toNat ++ n.s).length:Int)+n.e).toNat ++ [46] ++ (Lib.repeatL [48] (1 - n.e - n.s.length).toNat ++ n.s).drop (((Lib.repeatL [48] (1 - n.e - n.s.length).toNat ++ n.s).length:Int)+n.e).toNat
 else J9n n ++ n.s ++ [101] ++ Lib.itoa n.e
def val (l:List UInt8):Int:=l.foldl (fun n c=>n * 10+((c.toNat:Int) - 48)) 0
end Go.LX
namespace Go.Proofs
open Go.Shelf
def Tryz_lays237_renX:Go.Shelf.Ren:=⟨fun | 237=>168 | 272=>197 | 238=>196 | 315=>233 | 273=>232 | 197=>199 | 271=>201 | 260=>234 | 120=>236 | n=>n,fun | 9=>9 | 40=>168 | 4=>4 | 3=>3 | 105=>196 | 21=>21 | 0=>0 | 5=>5 | 119=>161 | 46=>165 | 139=>164 | 138=>163 | n=>n,fun | 3=>0 | 4=>1 | n=>n⟩
theorem J39:Go.Proofs.Lays.n237 Tryz.prog Tryz_lays237_renX:={
 mixed:=by kernel_rfl
 f120:=Tryz.func236.trans (congrArg some (by kernel_rfl))
 f197:=Tryz.func199.trans (congrArg some (by kernel_rfl))
 f237:=Tryz.func168.trans (congrArg some (by kernel_rfl))
 f238:=Tryz.func196.trans (congrArg some (by kernel_rfl))
 f260:=Tryz.func234.trans (congrArg some (by kernel_rfl))
 f271:=Tryz.func201.trans (congrArg some (by kernel_rfl))
 f272:=Tryz.func197.trans (congrArg some (by kernel_rfl))
 f273:=Tryz.func232.trans (congrArg some (by kernel_rfl))
 f315:=Tryz.func233.trans (congrArg some (by kernel_rfl))
 t0:=Tryz.underlying0
 a0:=Tryz.isAgg0
 z0:=Tryz.sizeOf0
 v0:=Tryz.zeroValue0
 t3:=Tryz.underlying3
 a3:=Tryz.isAgg3
 z3:=Tryz.sizeOf3
 v3:=Tryz.zeroValue3
 t4:=Tryz.underlying4
 a4:=Tryz.isAgg4
 z4:=Tryz.sizeOf4
 v4:=Tryz.zeroValue4
 t5:=Tryz.underlying5
 a5:=Tryz.isAgg5
 z5:=Tryz.sizeOf5
 v5:=Tryz.zeroValue5
 t9:=Tryz.underlying9
 a9:=Tryz.isAgg9
 z9:=Tryz.sizeOf9
 v9:=Tryz.zeroValue9
 t21:=Tryz.underlying21
 a21:=Tryz.isAgg21
 z21:=Tryz.sizeOf21
 v21:=Tryz.zeroValue21
 t40:=Tryz.underlying168
 a40:=Tryz.isAgg168
 z40:=Tryz.sizeOf168
 v40:=Tryz.zeroValue168
 t46:=Tryz.underlying165
 a46:=Tryz.isAgg165
 z46:=Tryz.sizeOf165
 v46:=Tryz.zeroValue165
 t105:=Tryz.underlying196
 a105:=Tryz.isAgg196
 z105:=Tryz.sizeOf196
 v105:=Tryz.zeroValue196
 t119:=Tryz.underlying161
 a119:=Tryz.isAgg161
 z119:=Tryz.sizeOf161
 t138:=Tryz.underlying163
 a138:=Tryz.isAgg163
 z138:=Tryz.sizeOf163
 v138:=Tryz.zeroValue163
 t139:=Tryz.underlying164
 a139:=Tryz.isAgg164
 z139:=Tryz.sizeOf164
 v139:=Tryz.zeroValue164
 g3:=by kernel_rfl
 g4:=by kernel_rfl }
open Go.RowKit Go.Lib in
theorem Tryz.strings_TrimFunc_grows (g:Nat) (lb:Array Value) (eg:∀ args w,(callFunc g args).run Tryz.prog w=.ok (.enter g args) w) (p:Nat->Bool) (s:ByteArray) (w:World) (hs:s.size<=9223372036854775807) (hT:Lib.Utf8Tabs 0 1 w) (hp:PredGrows Tryz.prog g lb p w) :
  Calls Tryz.prog 168 #[.string s,.func (.func g) #[] lb] w fun e w'=>e=.returned (.string (Lib.trimF p s))/\Below w.heap.size w w':=Any.strings_TrimFunc_grows J39 g lb eg p s w hs hT hp
end Go.Proofs
set_option maxRecDepth 100000
set_option maxHeartbeats 2000000
namespace Go.LX
open Go Go.RowKit Go.Proofs Go.Proofs.Tryz
attribute [local irreducible] Al SWP Bi
theorem J4a (s:List UInt8):Jqr s=Pk s:=rfl
theorem Kcv (m e:Int) (hm1:0<=m) (hm2:m<=1000000):Det cx 140 [.p (.int .i64 m),.p (.int .i64 e)] [] (.p (.bool (J1b m e))) []:=by
 (refine bgo func140 ?_;simp only[go_sem,simprocAttr])
 (repeat'(first|(split)|fail))<;>simp (disch:=omega) [J1b,Aa, *]<;>omega
theorem J7l (c:Nat):Det cx 169 [.p (.int .i32 c)] [] (.p (.bool (decide (48<=c) && decide (c<=57)))) []:=by
 (refine bgo func169 ?_;simp only[go_sem,simprocAttr])
 (repeat'(first|(split)|fail))<;>(rw[Ea4];first|omega | (simp[-List.length_eq_zero_iff,Ac, *];done)|(simp[-List.length_eq_zero_iff,Ac, *];omega))
theorem J83 (a:Int):Det cx 153 [.p (.int .i64 a)] [] (.p (.bool false)) []:=by
 (refine bgo func153 ?_;simp only[go_sem,simprocAttr])
theorem J8z (a:List UInt8):Det cx 155 [.p (.str a)] [] (.p (.bool false)) []:=by
 (refine bgo func155 ?_;simp only[go_sem,simprocAttr])
theorem Jx2 (a b:Int):Det cx 115 [.p (.int .i64 a),.p (.int .i64 b)] [] (.p (.int .i64 (cmpI a b))) []:=by
 (refine bgo func115 ?_;simp only[go_sem,simprocAttr]);(repeat'(first|(apply iteI<;>intro h)|((refine Jqa (J83 _) ?_);simp only[go_sem,simprocAttr])|fail))
 all_goals simp[cmpI, *]
theorem J9j (a b:List UInt8):Det cx 117 [.p (.str a),.p (.str b)] [] (.p (.int .i64 (cmpS a b))) []:=by
 (refine bgo func117 ?_;simp only[go_sem,simprocAttr]);(repeat'(first|(apply iteI<;>intro h)|((refine Jqa (J8z _) ?_);simp only[go_sem,simprocAttr])|fail))
 all_goals simp_all[cmpS]
theorem nm_eta (x:ByteArray):(⟨⟨x.data.toList⟩⟩:ByteArray)=x:=by rcases x with ⟨⟨l⟩⟩;rfl
theorem J9z (s:List UInt8) (hs:s.length<=9223372036854775807):Det cx 168 [.p (.str s),.fn 169 []] [] (.p (.str (Lib.trimF figR ⟨⟨s⟩⟩).data.toList)) []:=by
 have he:Enters cx.P 169:=enters_of func169 kr rfl;refine Jr1 (v:=.string (Lib.trimF figR ⟨⟨s⟩⟩)) (enters_of func168 kr rfl) rfl (fun β w Im=>?_) fun β Im w vs hg hf=>?_
 ·have:=PRep.str (w:=w) (Im:=Im) (Lib.trimF figR ⟨⟨s⟩⟩).data.toList;rw[nm_eta] at this;exact this
 ·obtain ⟨v,u,rfl,h1,h2⟩:=fit2 hf;cases Ks h1;cases Kgm h2;refine Tryz.strings_TrimFunc_grows 169 #[] he figR ⟨⟨s⟩⟩ w hs (Jbj hg).tabs fun W x hx hb=>?_
  have hi:∀ b,Im b->b<W.heap.size:=fun b hb'=>Ebe (hf.im b hb') hb.size
  exact (J7l x).calls_below (w:=W) (Im:=Im) (cx.mono ⟨fun _ h=>h,fun b hb'=>hb.block b (hf.im b hb')⟩ hg) hi (vs:=[.int .i32 x]) rfl
   (fun i v a hv ha=>by cases i with | zero=>simp at hv ha;subst hv;subst ha;exact PRep.int _ _ | succ i=>simp at hv) (fun β w' Im' u hu=>Na hu)
theorem J78 (s:List UInt8) (hs:s.length<=9223372036854775807):Det cx 137 [.p (.str s)] [] (.p (.bool (Jqr s))) []:=by
 (refine bgo func137 ?_;simp only[go_sem,simprocAttr]);(repeat'(first|((refine Jqa (J9z s hs) ?_);simp only[go_sem,simprocAttr])|fail));exact J36 ⟨⟨s⟩⟩
end Go.LX
namespace Go.LX
open Go Go.RowKit Go.Proofs Go.Proofs.Tryz
attribute [local irreducible] Al SWP Bi
theorem Kfr (a b:Node) (ha:a.small) (hb:b.small):Det cx 154 [.p (.agg a.pv),.p (.agg b.pv)] [] (.p (.int .i64 (Jxi a b))) []:=by
 obtain ⟨a1,a2,a3⟩:=ha;obtain ⟨b1,b2,b3⟩:=hb;(refine bgo func154 ?_;simp only[go_sem,simprocAttr,Jth]);simp (disch:=omega) only [Aa];(repeat'(first|(apply iteI<;>intro h)|((first|(refine Jqa (Jx2 _ _) ?_)|(refine Jqa (J9j _ _) ?_));simp only[go_sem,simprocAttr])|fail))
 all_goals simp_all[Jxi]
theorem Kdu (a b:Node) (ha:a.small) (hb:b.small):Det cx 116 [.p (.agg a.pv),.p (.agg b.pv)] [] (.p (.int .i64 (Jwe a b))) []:=by
 (refine bgo func116 ?_;simp only[go_sem,simprocAttr,Jth]);(repeat'(first|(apply iteI<;>intro h)|((first|(refine Jqa (Kfr a b ha hb) ?_)|(refine Jqa (Kfr b a hb ha) ?_));simp only[go_sem,simprocAttr])|fail))
 all_goals simp_all[Jwe]
end Go.LX
namespace Go.LX
open Go Go.Proofs
def dig (s:List UInt8):Nat:=s.foldl (fun n c=>n * 10+(c.toNat - 48)) 0
def digF (n:Nat) (s:List UInt8):Nat:=s.foldl (fun n c=>n * 10+(c.toNat - 48)) n
theorem J1g:∀ (s:List UInt8) (n:Nat),digF n s=n * 10 ^ s.length+dig s
 | [],n=>by simp[digF,dig]
 | c :: s,n=>by
  have h1:=J1g s (n * 10+(c.toNat - 48));have h2:=J1g s (0 * 10+(c.toNat - 48));have e:dig (c :: s)=digF (0 * 10+(c.toNat - 48)) s:=rfl;have e':digF n (c :: s)=digF (n * 10+(c.toNat - 48)) s:=rfl;rw[e,e',h1,h2,Ead,Nat.pow_succ];have:(n * 10+(c.toNat - 48)) * 10 ^ s.length=n * (10 ^ s.length * 10)+(c.toNat - 48) * 10 ^ s.length:=by
   rw[Ebl,Eb6,Ecg 10]
  rw[this];simp;omega
theorem Jvt (c:UInt8) (s:List UInt8):dig (c :: s)=(c.toNat - 48) * 10 ^ s.length+dig s:=by
 have e:dig (c :: s)=digF (0 * 10+(c.toNat - 48)) s:=rfl;rw[e,J1g];simp
theorem Jyf (s t:List UInt8):dig (s ++ t)=dig s * 10 ^ t.length+dig t:=by
 have:dig (s ++ t)=digF (dig s) t:=by simp[dig,digF,List.foldl_append]
 rw[this,J1g]
theorem Jsv {c:UInt8} {s:List UInt8}:Jqr (c :: s)=true ↔ (48<=c.toNat/\c.toNat<=57)/\Jqr s=true:=by
 simp[Jqr,J7r]
theorem Jsm {s t:List UInt8}:Jqr (s ++ t)=true ↔ Jqr s=true/\Jqr t=true:=by
 simp[Jqr,List.all_append]
theorem Jyc:∀ {s:List UInt8},Jqr s=true->dig s<10 ^ s.length
 | [],_=>by simp[dig]
 | c :: s,h=>by
  rw[Jsv] at h;have:=Jyc h.2;rw[Jvt,Ead,Nat.pow_succ];have h9:(c.toNat - 48)<=9:=by omega
  have:=Ea3 (10 ^ s.length) h9;omega
theorem dig_ge {c:UInt8} {s:List UInt8} (h:Jqr (c :: s)=true) (hc:c.toNat≠48):10 ^ s.length<=dig (c :: s):=by
 rw[Jsv] at h;rw[Jvt];have:1<=c.toNat - 48:=by omega
 have:=Ea3 (10 ^ s.length) this;omega
theorem J8o {s:List UInt8} (h0:0<s.length) (hf:Jqr s=true) (hl:at_ s (s.length - 1)≠48):0<dig s/\dig s % 10≠0:=by
 obtain ⟨l,c,rfl⟩:=J6p h0;rw[Jsm] at hf;have hc:=(Jsv.1 hf.2).1;have e:(l ++ [c]).length - 1=l.length:=by simp
 rw[e,Jyx] at hl;rw[Jyf];have:dig [c]=c.toNat - 48:=by simp[dig]
 rw[this];simp only[Ead,Ea8,Ebo,Nat.pow_one];omega
structure RightN (n:Node):Prop where
 kind:n.kind=3
 many:n.many=0
 name:n.name=[]
 figs:Jqr n.s=true
 len:n.s.length<=100
 e1:-1000<=n.e
 e2:n.e<=1000
 top:(n.s.length:Int)+n.e<=1000
 zero:n.s.length=0->n.neg=false/\n.e=0
 head:0<n.s.length->at_ n.s 0≠48
 last:0<n.s.length->at_ n.s (n.s.length - 1)≠48
theorem RightN.small {n:Node} (h:RightN n):n.small:=⟨by have:=h.len;omega,by have:=h.e1;omega,by have:=h.e2;omega⟩
def mag (n:Node):Nat:=dig n.s * 10 ^ (n.e+1000).toNat
def sv (n:Node):Int:=if n.neg=true then -(mag n:Int) else mag n
theorem Jz7 {n:Node} (h:RightN n):mag n<10 ^ (n.s.length+n.e+1000).toNat:=by
 have e:(n.s.length+n.e+1000).toNat=n.s.length+(n.e+1000).toNat:=by have:=h.e1;omega
 rw[e,Edi];exact Nat.mul_lt_mul_of_pos_right (Jyc h.figs) (Edp de)
theorem J2i {n:Node} (h:RightN n) (h0:0<n.s.length):10 ^ (n.s.length+n.e+999).toNat<=mag n:=by
 have e:(n.s.length+n.e+999).toNat=(n.s.length - 1)+(n.e+1000).toNat:=by have:=h.e1;omega
 rw[e,Edi];refine Ea3 _ ?_;have hh:=h.head h0;have hf:=h.figs;cases hs:n.s with
 | nil=>rw[hs] at h0;simp at h0
 | cons c s =>
  rw[hs] at hh hf;rw[Jy3] at hh;simpa using dig_ge hf hh
theorem Jtx {n:Node} (h:RightN n) (h0:0<n.s.length):0<mag n:=Ebe (Edp de) (J2i h h0)
theorem Jw7 {n:Node} (h0:n.s.length=0):mag n=0:=by
 have:n.s=[]:=Ean h0;simp[mag,this,dig]
theorem J7j:∀ (M:Nat) (x y:List UInt8),Jqr x=true->Jqr y=true->x.length<=M->y.length<=M->(0<y.length->at_ y (y.length - 1)≠48)->Op.bytesLess x y=true->dig x * 10 ^ (M - x.length)<dig y * 10 ^ (M - y.length)
 | M,x,[],_,_,_,_,_,h=>by cases x<;>simp[Op.bytesLess] at h
 | M,[],d :: y,_,hy,_,_,hl,_=>by
  have:=(J8o sm hy (hl sm)).1;simp only[dig,List.foldl_nil,Edf];exact Nat.mul_pos this (Edp de)
 | M,c :: x,d :: y,hx,hy,h1,h2,hl,h=>by
  rw[Jsv] at hx hy;simp only[Ead] at h1 h2;obtain ⟨m,rfl⟩:∃ m,M=m+1:=⟨M - 1,omg⟩
  rw[Jvt,Jvt,Ead,Ead,Nat.add_sub_add_right,Nat.add_sub_add_right,Ebl,Ebl,Eb6,Eb6,<- Edi,<- Edi,
   show x.length+(m - x.length)=m by omega,show y.length+(m - y.length)=m by omega]
  simp only[Op.bytesLess,Ecf,decide_eq_true_eq,Ebb,beq_iff_eq] at h;have bx:dig x * 10 ^ (m - x.length)<10 ^ m:=by
   have:=Nat.mul_lt_mul_of_pos_right (Jyc hx.2) (Edp (n:=m - x.length) (show 0<10 by decide))
   rwa[<- Edi,show x.length+(m - x.length)=m by omega] at this
  rcases h with h | ⟨h,h'⟩
  ·have hcd:c.toNat<d.toNat:=h;have:(c.toNat - 48+1)<=d.toNat - 48:=by omega
   have:=Ea3 (10 ^ m) this;rw[Ebl] at this;omega
  ·subst h;have hl':0<y.length->at_ y (y.length - 1)≠48:=fun hp=>by
    have:=hl sm;cases y with
    | nil=>simp at hp
    | cons a l=>simpa[at_] using this
   have:=J7j m x y hx.2 hy.2 omg omg hl' h';omega
theorem J02:∀ (x y:List UInt8),Op.bytesLess x y=true\/x=y\/Op.bytesLess y x=true
 | [],[]=>.inr (.inl rfl)
 | [],_ :: _=>.inl rfl
 | _ :: _,[]=>.inr (.inr rfl)
 | a :: x,b :: y=>by
  simp only[Op.bytesLess,Ecf,decide_eq_true_eq,Ebb,beq_iff_eq,Ec7];rcases Nat.lt_trichotomy a.toNat b.toNat with h | h | h
  ·exact .inl (.inl h)
  ·have:a=b:=UInt8.toNat_inj.1 h;subst this;rcases J02 x y with h | h | h
   ·exact .inl (.inr ⟨rfl,h⟩)
   ·exact .inr (.inl ⟨rfl,h⟩)
   ·exact .inr (.inr (.inr ⟨rfl,h⟩))
  ·exact .inr (.inr (.inl h))
theorem Jtt:∀ (x:List UInt8),Op.bytesLess x x=false
 | []=>rfl
 | a :: x=>by simp[Op.bytesLess,Jtt x]
theorem Kdk (a:Int):cmpI a a=0:=by simp[cmpI]
theorem Jug {a b:Int} (h:a<b):cmpI a b = -1:=by simp[cmpI,h]
theorem Juh {a b:Int} (h:b<a):cmpI a b=1:=by simp[cmpI,h];omega
theorem J17 {a b:Node} (ha:RightN a) (hb:RightN b):Jxi a b=cmpI (mag a) (mag b):=by
 unfold Jxi;by_cases a0:a.s.length=0
 ·rw[if_pos a0,Jw7 a0];by_cases b0:b.s.length=0
  ·rw[Jw7 b0,a0,b0]
  ·have:=Jtx hb omg;rw[Jug omg,Jug omg]
 ·rw[if_neg a0];have pa:=Jtx ha omg;by_cases b0:b.s.length=0
  ·rw[if_pos b0,Jw7 b0,Juh omg,Juh omg]
  ·rw[if_neg b0];have la:=Jz7 ha;have lb:=Jz7 hb;have ga:=J2i ha omg;have gb:=J2i hb omg;have ea:=ha.e1;have eb:=hb.e1;rcases Int.lt_trichotomy (a.s.length+a.e) (b.s.length+b.e) with h | h | h
   ·rw[Jug h,if_pos de];have:10 ^ (a.s.length+a.e+1000).toNat<=10 ^ (b.s.length+b.e+999).toNat:=Ec1 de omg;rw[Jug omg]
   ·rw[h,Kdk,if_neg de];let M:=max a.s.length b.s.length;let E:=min a.e b.e;have key:∀ {x y:Node},RightN x->RightN y->x.s.length+x.e=y.s.length+y.e->0<y.s.length->Op.bytesLess x.s y.s=true->mag x<mag y:=by
     intro x y hx hy hxy h0 hl;have:=J7j (max x.s.length y.s.length) x.s y.s hx.figs hy.figs omg omg hy.last hl;unfold mag;have e1:=hx.e1;have e2:=hy.e1;have q1:(x.e+1000).toNat=(max x.s.length y.s.length - x.s.length)+(min x.e y.e+1000).toNat:=by omega
     have q2:(y.e+1000).toNat=(max x.s.length y.s.length - y.s.length)+(min x.e y.e+1000).toNat:=by omega
     rw[q1,q2,Edi,Edi,<- Eb6,<- Eb6];exact Nat.mul_lt_mul_of_pos_right this (Edp de)
    unfold cmpS;rcases J02 a.s b.s with g | g | g
    ·rw[if_pos g,Jug (by have:=key ha hb h omg g;omega)]
    ·have e:a.e=b.e:=by rw[g] at h;omega
     rw[g,Jtt];simp[mag,g,e,cmpI]
    ·have n1:Op.bytesLess a.s b.s=false:=by
      cases hh:Op.bytesLess a.s b.s with
      | false=>rfl
      | true =>
       have:=key ha hb h omg hh;have:=key hb ha h.symm omg g;omega
     have n2:(a.s == b.s)=false:=by
      rw[beq_eq_false_iff_ne];intro hh;rw[hh,Jtt] at g;cases g
     rw[n1,n2,Juh (by have:=key hb ha h.symm omg g;omega)];simp
   ·rw[Juh h,if_pos de];have:10 ^ (b.s.length+b.e+1000).toNat<=10 ^ (a.s.length+a.e+999).toNat:=Ec1 de omg;rw[Juh omg]
theorem RightN.neg_len {n:Node} (h:RightN n) (hn:n.neg=true):0<n.s.length:=by
 by_cases h0:n.s.length=0
 ·rw[(h.zero h0).1] at hn;cases hn
 ·omega
theorem J48 {a b:Node} (ha:RightN a) (hb:RightN b):Jwe a b=cmpI (sv a) (sv b):=by
 unfold Jwe sv;cases na:a.neg<;>cases nb:b.neg<;>simp only[Eb0,false_and,and_false,and_self,and_true,↓reduceIte,Bool.true_eq_false]
 ·exact J17 ha hb
 ·have:=Jtx hb (hb.neg_len nb);rw[Juh omg]
 ·have:=Jtx ha (ha.neg_len na);rw[Jug omg]
 ·rw[J17 hb ha];unfold cmpI;split<;>split<;>(first|rfl | omega | skip)
  all_goals((split<;>first|rfl | omega | skip)<;>(split<;>first|rfl | omega))
def cmp3 (side:Int) (x y:Nat):Int:=if x<y then -side else if y<x then side else 0
theorem Kbo:∀ (s t:List UInt8),Jqr s=true->Jqr t=true->s.length=t.length->dig s=dig t->s=t
 | [],[],_,_,_,_=>rfl
 | [],_ :: _,_,_,h,_=>by simp at h
 | _ :: _,[],_,_,h,_=>by simp at h
 | c :: s,d :: t,hs,ht,hl,h=>by
  rw[Jsv] at hs ht;have hl':s.length=t.length:=by simpa using hl
  rw[Jvt,Jvt,hl'] at h;have b1:=Jyc hs.2;have b2:=Jyc ht.2;rw[hl'] at b1;have hc:c.toNat - 48=d.toNat - 48:=by
   have e1:((c.toNat - 48) * 10 ^ t.length+dig s) / 10 ^ t.length=((d.toNat - 48) * 10 ^ t.length+dig t) / 10 ^ t.length:=by rw[h]
   rwa[Ecw,Nat.add_mul_div_right _ _ (Edp de),Nat.div_eq_of_lt b1,Ecw _ (dig t),Nat.add_mul_div_right _ _ (Edp de),Nat.div_eq_of_lt b2,Ebo,Ebo] at e1
  rw[hc] at h;have:c=d:=UInt8.toNat_inj.1 omg;rw[this,Kbo s t hs.2 ht.2 hl' omg]
theorem Khh {a b:Node} (ha:RightN a) (hb:RightN b) (h:mag a=mag b):a.s=b.s/\a.e=b.e:=by
 by_cases a0:a.s.length=0
 ·by_cases b0:b.s.length=0
  ·exact ⟨by rw[Ean a0,Ean b0],by rw[(ha.zero a0).2,(hb.zero b0).2]⟩
  ·have:=Jtx hb omg;rw[Jw7 a0] at h;omega
 ·by_cases b0:b.s.length=0
  ·have:=Jtx ha omg;rw[Jw7 b0] at h;omega
  ·have e1:=ha.e1;have e2:=hb.e1;have he:a.e=b.e:=by
    have key:∀ {x y:Node},RightN x->RightN y->0<x.s.length->mag x=mag y->¬ x.e<y.e:=by
     intro x y hx hy x0 hxy hlt;have f1:=hx.e1;have:=(J8o x0 hx.figs (hx.last x0)).2;unfold mag at hxy;have e:(y.e+1000).toNat=((y.e+1000).toNat - (x.e+1000).toNat - 1)+1+(x.e+1000).toNat:=by omega
     rw[e,Edi,<- Eb6] at hxy;have q:=Nat.eq_of_mul_eq_mul_right (Edp de) hxy;rw[q,Nat.pow_succ,<- Eb6,Nat.mul_mod_left] at this;omega
    have:=key ha hb omg h;have:=key hb ha omg h.symm;omega
   have hl:a.s.length=b.s.length:=by
    have l1:=Jz7 ha;have l2:=Jz7 hb;have g1:=J2i ha omg;have g2:=J2i hb omg;rcases Nat.lt_trichotomy a.s.length b.s.length with hh | hh | hh
    ·have:10 ^ (a.s.length+a.e+1000).toNat<=10 ^ (b.s.length+b.e+999).toNat:=Ec1 de omg;omega
    ·exact hh
    ·have:10 ^ (b.s.length+b.e+1000).toNat<=10 ^ (a.s.length+a.e+999).toNat:=Ec1 de omg;omega
   refine ⟨Kbo _ _ ha.figs hb.figs hl ?_,he⟩;unfold mag at h;rw[he] at h;exact Nat.eq_of_mul_eq_mul_right (Edp de) h
theorem sv_inj {a b:Node} (ha:RightN a) (hb:RightN b) (h:sv a=sv b):a=b:=by
 have hm:mag a=mag b/\a.neg=b.neg:=by
  unfold sv at h;cases na:a.neg<;>cases nb:b.neg<;>simp only[na,nb,Eb0,↓reduceIte] at h
  ·exact ⟨omg,rfl⟩
  ·have:=Jtx hb (hb.neg_len nb);omega
  ·have:=Jtx ha (ha.neg_len na);omega
  ·exact ⟨omg,rfl⟩
 obtain ⟨h1,h2⟩:=Khh ha hb hm.1;obtain ⟨k1,m1,n1,s1,g1,e1⟩:=a;obtain ⟨k2,m2,n2,s2,g2,e2⟩:=b;simp only at h1 h2 hm;have:=ha.kind;have:=hb.kind;have:=ha.many;have:=hb.many;have:=ha.name;have:=hb.name;simp_all
def Node.flip (n:Node):Node:={ n with neg:=!n.neg && (n.s != []) }
theorem RightN.flip {n:Node} (h:RightN n):RightN n.flip:=by
 obtain ⟨g1,g2,g3,g4,g5,g6,g7,g8,g9,g10,g11⟩:=h;refine ⟨g1,g2,g3,g4,g5,g6,g7,g8,fun h0=>⟨?_,(g9 h0).2⟩,g10,g11⟩;have:n.s=[]:=Ean h0;simp[Node.flip,this]
theorem Kcs (a b:Int):cmpI b a = -cmpI a b:=by unfold cmpI;split<;>split<;>(try split)<;>omega
theorem Kco (a b:Int):cmpI a b=0 ↔ a=b:=by unfold cmpI;split<;>(try split)<;>omega
theorem Kcm (a b:Int):cmpI a b<0 ↔ a<b:=by unfold cmpI;split<;>(try split)<;>omega
end Go.LX
namespace Go.LX
open Go Go.RowKit Go.Proofs Go.Proofs.Tryz
attribute [local irreducible] Al SWP Bi
def lexI {α β:Type} (c:α->β->Int):List α->List β->Int
 | [],[]=>0
 | [],_ :: _=>-1
 | _ :: _,[]=>1
 | x :: l,y :: m=>if c x y=0 then lexI c l m else c x y
theorem J5z {α β:Type} {c:α->β->Int} {l:List α} {m:List β} {i:Nat} {x:α} {y:β} (hx:l[i]? = some x) (hy:m[i]? = some y) :
  lexI c (l.drop i) (m.drop i)=if c x y=0 then lexI c (l.drop (i+1)) (m.drop (i+1)) else c x y:=by
 obtain ⟨h1,rfl⟩:=Eab.1 hx;obtain ⟨h2,rfl⟩:=Eab.1 hy;rw[Eaz h1,Eaz h2,lexI]
theorem Jzi {α β:Type} {c:α->β->Int} {l:List α} {m:List β} {i:Nat} (h:l.length<=i) (hm:i<m.length):lexI c (l.drop i) (m.drop i) = -1:=by
 rw[Eao h,Eaz hm,lexI]
theorem Jys {α β:Type} {c:α->β->Int} {l:List α} {m:List β} {i:Nat} (h:l.length<=i) (hm:m.length<=i):lexI c (l.drop i) (m.drop i)=0:=by
 rw[Eao h,Eao hm,lexI]
theorem Jyt {α β:Type} {c:α->β->Int} {l:List α} {m:List β} {i:Nat} (h:i<l.length) (hm:m.length<=i):lexI c (l.drop i) (m.drop i)=1:=by
 rw[Eaz h,Eao hm,lexI]
theorem Jtu (a:List UInt8):cmpS a a=0:=by simp[cmpS,E0]
theorem J4t {a b:List UInt8} (h:cmpS a b=0):a=b:=by
 unfold cmpS at h;split at h
 ·omega
 ·split at h
  ·omega
  ·rename_i h1 h2;simp at h1 h2;exact h2 h1
theorem Kax {a b:List UInt8} (h:¬ a=b):cmpS a b=if Op.bytesLess a b=true then -1 else 1:=by
 unfold cmpS;split
 ·rfl
 ·rename_i h1;simp at h1;simp[h1,h]
def ndN (s:List UInt8) (g:Bool) (e:Int):Node:=⟨3,0,[],s,g,e⟩
mutual
def cmpT:Tree->Tree->Int
 | .mk k s g e kids,.mk k' s' g' e' kids' =>
  if k=k' then (if k=3 then Jwe (ndN s g e) (ndN s' g' e') else if k=4 then cmpS s s' else
   if k=6 then (if lexI cmpS (kids.list.map (·.1)) (kids'.list.map (·.1))=0 then cmpF kids kids'.list else lexI cmpS (kids.list.map (·.1)) (kids'.list.map (·.1))) else
   if k=5 then cmpF kids kids'.list else 0) else cmpI k k'
def cmpF:Forest->List KT->Int
 | .nil,[]=>0
 | .nil,_ :: _=>-1
 | .cons _ _ _,[]=>1
 | .cons _ t r,q :: l=>if cmpT t q.2=0 then cmpF r l else cmpT t q.2
end
theorem Jsa {k:Int} {s:List UInt8} {g:Bool} {e:Int} {kids:Forest} {k':Int} {s':List UInt8} {g':Bool} {e':Int} {kids':Forest}:cmpT (.mk k s g e kids) (.mk k' s' g' e' kids') =
  if k=k' then (if k=3 then Jwe (ndN s g e) (ndN s' g' e') else if k=4 then cmpS s s' else
   if k=6 then (if lexI cmpS (kids.list.map (·.1)) (kids'.list.map (·.1))=0 then cmpF kids kids'.list else lexI cmpS (kids.list.map (·.1)) (kids'.list.map (·.1))) else
   if k=5 then cmpF kids kids'.list else 0) else cmpI k k':=by rw[cmpT]
theorem Juu:∀ (f:Forest) (l:List KT),cmpF f l=lexI (fun p q:KT=>cmpT p.2 q.2) f.list l
 | .nil,[]=>by rw[cmpF];rfl
 | .nil,_ :: _=>by rw[cmpF];rfl
 | .cons _ _ _,[]=>by rw[cmpF];rfl
 | .cons _ t r,q :: l=>by rw[cmpF,Juu r l];rfl
theorem Jtg {l:List KT} {i:Nat} {p:KT} (h:l[i]? = some p):(Bd l)[i]? = some [.str p.1]:=by simp[Bd,h]
theorem Jzn {l:List KT} {i:Nat} {p:KT} (h:l[i]? = some p):(l.map (·.1))[i]? = some p.1:=by simp[h]
theorem J2w (l m:List KT) (hl:l.length<=1500000000000) (hlm:m.length<=1500000000000):Det cx 118 [.p (.sl (Bd l)),.p (.sl (Bd m))] [] (.p (.int .i64 (lexI cmpS (l.map (·.1)) (m.map (·.1))))) []:=by
 have e1:(l.map (·.1)).length=l.length:=Ea1 ..
 have e2:(m.map (·.1)).length=m.length:=Ea1 ..
 (refine bgo func118 ?_;simp only[go_sem,simprocAttr,A9]);refine SWP.loop (fun i:Nat=>⟨Ba 36 [(0,.p (.sl (Bd l))),(1,.p (.sl (Bd m))),(9,.p (.sl (Bd l))),(10,.p (.int .i64 l.length)),(11,.p (.int .i64 i))],[]⟩) (fun i=>i<=l.length/\lexI cmpS (l.map (·.1)) (m.map (·.1))=lexI cmpS ((l.map (·.1)).drop i) ((m.map (·.1)).drop i)) (fun i=>l.length - i) 0 Jqc ⟨Eau _,rfl⟩ ?_;rintro i ⟨h1,h3⟩;by_cases hi:i<l.length
 ·have c1:((i:Int)<(l.length:Int))=True:=eq_true omg;obtain ⟨x,hx⟩:∃ x,l[i]? = some x:=⟨_,Eaa hi⟩
  have hgx:=Jtg hx;by_cases hj:i<m.length
  ·have c2:((m.length:Int)<=(i:Int))=False:=eq_false omg;obtain ⟨y,hy⟩:∃ y,m[i]? = some y:=⟨_,Eaa hj⟩
   have hgy:=Jtg hy;have w1:=wj1 (i:=i) omg;have hk:=J5z (c:=cmpS) (Jzn hx) (Jzn hy);(refine lws ?_;simp only[go_sem,simprocAttr,A9,c1,c2,hgx,hgy]);(repeat'(first|(apply iteI<;>intro h)|((refine Jqa (J9j _ _) ?_);simp only[go_sem,simprocAttr,w1])|fail))
   ·rw[h3,hk,if_neg h]
   ·exact ⟨i+1,⟨omg,by rw[h3,hk,if_pos (Ea9.1 h)]⟩,omg,Jqc⟩
  ·have c2:((m.length:Int)<=(i:Int))=True:=eq_true omg;(refine lws ?_;simp only[go_sem,simprocAttr,A9,c1,c2,hgx]);rw[h3,Jyt omg omg]
 ·have c1:((i:Int)<(l.length:Int))=False:=eq_false omg;(refine lws ?_;simp only[go_sem,simprocAttr,A9,c1]);(repeat'(apply iteI<;>intro h))
  ·rw[h3,Jzi omg omg]
  ·rw[h3,Jys omg omg]
theorem J1e {l:List KT} {i:Nat} {p:KT} (h:l[i]? = some p):(A4 l)[i]? = some [.sl (valL (p.2.enc []))]:=by simp[A4,h]
theorem Jsl (a:Int):cmpI a a=0:=by simp[cmpI]
abbrev cmp2 (p q:KT):Int:=cmpT p.2 q.2
theorem J31 (l m:List KT) (hl:l.length<=1500000000000) (hlm:m.length<=1500000000000) (hc:∀ p∈l,∀ q∈m,Det cx 62 [.p (.sl (valL (p.2.enc []))),.p (.sl (valL (q.2.enc [])))] [] (.p (.int .i64 (cmp2 p q))) []) :
  Det cx 119 [.p (.sl (A4 l)),.p (.sl (A4 m)),.fn 62 []] [] (.p (.int .i64 (lexI cmp2 l m))) []:=by
 (refine bgo func119 ?_;simp only[go_sem,simprocAttr,A5]);refine SWP.loop (fun i:Nat=>⟨Ba 39 [(0,.p (.sl (A4 l))),(1,.p (.sl (A4 m))),(2,.fn 62 []),(11,.p (.sl (A4 l))),(12,.p (.int .i64 l.length)),(13,.p (.int .i64 i))],[]⟩) (fun i=>i<=l.length/\lexI cmp2 l m=lexI cmp2 (l.drop i) (m.drop i)) (fun i=>l.length - i) 0 Jqc ⟨Eau _,rfl⟩ ?_;rintro i ⟨h1,h3⟩;by_cases hi:i<l.length
 ·have c1:((i:Int)<(l.length:Int))=True:=eq_true omg;obtain ⟨x,hx⟩:∃ x,l[i]? = some x:=⟨_,Eaa hi⟩
  have hgx:=J1e hx;by_cases hj:i<m.length
  ·have c2:((m.length:Int)<=(i:Int))=False:=eq_false omg;obtain ⟨y,hy⟩:∃ y,m[i]? = some y:=⟨_,Eaa hj⟩
   have hgy:=J1e hy;have w1:=wj1 (i:=i) omg;have hk:=J5z (c:=cmp2) hx hy;have hxy:=hc x (Eag hx) y (Eag hy);(refine lws ?_;simp only[go_sem,simprocAttr,A5,c1,c2,hgx,hgy]);(repeat'(first|(apply iteI<;>intro h)|((refine Jqa hxy ?_);simp only[go_sem,simprocAttr,w1])|fail))
   ·rw[h3,hk,if_neg h]
   ·exact ⟨i+1,⟨omg,by rw[h3,hk,if_pos (Ea9.1 h)]⟩,omg,Jqc⟩
  ·have c2:((m.length:Int)<=(i:Int))=True:=eq_true omg;(refine lws ?_;simp only[go_sem,simprocAttr,A5,c1,c2,hgx]);rw[h3,Jyt omg omg]
 ·have c1:((i:Int)<(l.length:Int))=False:=eq_false omg;(refine lws ?_;simp only[go_sem,simprocAttr,A5,c1]);(repeat'(apply iteI<;>intro h))
  ·rw[h3,Jzi omg omg]
  ·rw[h3,Jys omg omg]
theorem Jzm {k m:Int} {nm s:List UInt8} {g:Bool} {e:Int} (h:Yz s g e):Node.small ⟨k,m,nm,s,g,e⟩:=by
 obtain ⟨_,h1,h2,h3,_⟩:=h;exact ⟨by show s.length<=_;omega,by show _<=e;omega,by show e<=_;omega⟩
theorem Jtc {s:List UInt8} {g:Bool} {e:Int} (h:Yz s g e):RightN (ndN s g e):=by
 obtain ⟨h0,h1,h2,h3,h4,h5⟩:=h;refine ⟨rfl,rfl,rfl,h0,h1,h2,h3,h4,fun hz=>?_,fun hp=>?_,fun hp=>?_⟩
 ·have:s=[]:=Ean hz;rw[if_pos this] at h5;exact h5
 ·have:s≠[]:=by intro e;subst e;exact (Nat.lt_irrefl 0 hp).elim
  rw[if_neg this] at h5;exact h5.1
 ·have:s≠[]:=by intro e;subst e;exact (Nat.lt_irrefl 0 hp).elim
  rw[if_neg this] at h5;exact h5.2
theorem Jvc {k m:Int} {s:List UInt8} {g:Bool} {e:Int} (h:G3 k s g e m) (hk:k=3):Yz s g e:=by
 subst hk;unfold G3 at h;simp at h;exact h.2
theorem nc_num (m m':Int) (nm nm' s s':List UInt8) (g g':Bool) (e e':Int) (h:Yz s g e) (h':Yz s' g' e'):Det cx 116 [.p (.agg [.int .i64 3,.int .i64 m,.str nm,.str s,.bool g,.int .i64 e]),.p (.agg [.int .i64 3,.int .i64 m',.str nm',.str s',.bool g',.int .i64 e'])] [] (.p (.int .i64 (Jwe (ndN s g e) (ndN s' g' e')))) []:=by
 have:=Kdu ⟨3,m,nm,s,g,e⟩ ⟨3,m',nm',s',g',e'⟩ (Jzm h) (Jzm h');exact this
theorem J6x {a b:Int} (h:¬ a=b):¬ cmpI a b=0:=by
 unfold cmpI;split
 ·decide
 ·split
  ·decide
  ·omega
theorem Jvb {k:Int} {s:List UInt8} {g:Bool} {e:Int} {kids:Forest} (h:okT (.mk k s g e kids)) {p:KT} (hp:p∈kids.list):okT p.2:=Jdo.1 (Lu.1 h).2.2 p hp
theorem Ke2 (n:Nat) (t u:Tree) (hn:(t.enc []).length<=n) (ht:okT t) (hu:okT u) (hs:(t.enc []).length<=1500000000000) (hs':(u.enc []).length<=1500000000000):Det cx 62 [.p (.sl (valL (t.enc []))),.p (.sl (valL (u.enc [])))] [] (.p (.int .i64 (cmpT t u))) []:=by
 induction n generalizing t u with
 | zero=>have:=Et t [];omega
 | succ n ih =>
 cases t with
 | mk k s g e kids =>
 cases u with
 | mk k' s' g' e' kids' =>
 have hok:=Lu.1 ht;have hok':=Lu.1 hu;rw[A6,Ead] at hn hs hs';have hg:=Cc [] k s g e kids;have hg':=Cc [] k' s' g' e' kids';have hll:=Jqi kids;have hll':=Jqi kids';have hkl:=Jqh kids;have hkl':=Jqh kids';have hc:∀ p∈kids.list,∀ q∈kids'.list,Det cx 62 [.p (.sl (valL (p.2.enc []))),.p (.sl (valL (q.2.enc [])))] [] (.p (.int .i64 (cmp2 p q))) []:=fun p hp q hq=>ih p.2 q.2 (by have:=Jd7 hp;omega) (Jvb ht hp) (Jvb hu hq) (by have:=Jd7 hp;omega) (by have:=Jd7 hq;omega)
 have hCF:=J31 kids.list kids'.list omg omg hc;by_cases hkk:k=k'
 ·subst hkk;by_cases h3:k=3
  ·subst h3;(refine bgo func62 ?_;simp only[go_sem,simprocAttr]);(repeat'(first|(apply iteI<;>intro h)|((first|refine Jqm ?_|(refine Jqb (Jx2 _ _) ?_)|(refine Jqb (nc_num _ _ _ _ _ _ _ _ _ _ (Jvc hok.1 rfl) (Jvc hok'.1 rfl)) ?_));simp only[go_sem,simprocAttr,hg,hg'])|fail))
   all_goals first
    | exact absurd (Jsl _) (by assumption)
    | (rw[Jsa,if_pos rfl,if_pos rfl];done)
  ·by_cases h4:k=4
   ·subst h4;(refine bgo func62 ?_;simp only[go_sem,simprocAttr]);(repeat'(first|(apply iteI<;>intro h)|((first|refine Jqm ?_|(refine Jqb (Jx2 _ _) ?_)|(refine Jqb (J9j _ _) ?_));simp only[go_sem,simprocAttr,hg,hg'])|fail))
    all_goals first
     | exact absurd (Jsl _) (by assumption)
     | (rw[Jsa,if_pos rfl,if_neg de,if_pos rfl];done)
   ·by_cases h6:k=6
    ·subst h6;(refine bgo func62 ?_;simp only[go_sem,simprocAttr]);(repeat'(first|(apply iteI<;>intro h)|((first|refine Jqm ?_|(refine Jqb (Jx2 _ _) ?_)|(refine Jqa (J56 [] s g e kids omg) ?_)|(refine Jqa (J56 [] s' g' e' kids' omg) ?_)|(refine Jqa (J2w _ _ omg omg) ?_)|(refine Jqa (Px [] 6 s g e kids omg) ?_)|(refine Jqa (Px [] 6 s' g' e' kids' omg) ?_)|refine Jqa hCF ?_);simp only[go_sem,simprocAttr,hg,hg'])|fail))
     all_goals first
      | exact absurd (Jsl _) (by assumption)
      | (rw[Jsa,if_pos rfl,if_neg de,if_neg de,if_pos rfl,if_neg (by assumption)];done)
      | (rw[Jsa,if_pos rfl,if_neg de,if_neg de,if_pos rfl,if_pos (Ea9.1 (by assumption)),Juu];done)
    ·by_cases h5:k=5
     ·subst h5;(refine bgo func62 ?_;simp only[go_sem,simprocAttr]);(repeat'(first|(apply iteI<;>intro h)|((first|refine Jqm ?_|(refine Jqb (Jx2 _ _) ?_)|(refine Jqa (Px [] 5 s g e kids omg) ?_)|(refine Jqa (Px [] 5 s' g' e' kids' omg) ?_)|refine Jqa hCF ?_);simp only[go_sem,simprocAttr,hg,hg'])|fail))
      all_goals first
       | exact absurd (Jsl _) (by assumption)
       | (rw[Jsa,if_pos rfl,if_neg de,if_neg de,if_neg de,if_pos rfl,Juu];done)
     ·(refine bgo func62 ?_;simp only[go_sem,simprocAttr]);(repeat'(first|(apply iteI<;>intro h)|((first|refine Jqm ?_|(refine Jqb (Jx2 _ _) ?_));simp only[go_sem,simprocAttr,hg,hg'])|(exfalso;omega)))
      all_goals first
       | exact absurd (Jsl _) (by assumption)
       | (rw[Jsa,if_pos rfl,if_neg h3,if_neg h4,if_neg h6,if_neg h5];done)
 ·(refine bgo func62 ?_;simp only[go_sem,simprocAttr]);(repeat'(first|(apply iteI<;>intro h)|((first|refine Jqm ?_|(refine Jqb (Jx2 _ _) ?_));simp only[go_sem,simprocAttr,hg,hg'])|fail))
  all_goals first
   | (rw[Jsa,if_neg hkk];done)
   | exact absurd (Ea9.1 (by assumption)) (J6x hkk)
   | exact absurd (by assumption) (J6x hkk)
theorem Jxe {a b:List UInt8}:cmpS a b=if a=b then 0 else if Op.bytesLess a b=true then -1 else 1:=by
 by_cases h:a=b
 ·subst h;rw[if_pos rfl,Jtu]
 ·rw[if_neg h,Kax h]
def Jqd (l:List Tree):List (List PV):=l.map fun t=>[.sl (valL (t.enc []))]
@[simp] theorem Jqf (l:List Tree):(Jqd l).length=l.length:=by simp[Jqd]
theorem Jq5 {l:List Tree} {i:Nat} {t:Tree} (h:l[i]? = some t):(Jqd l)[i]? = some [.sl (valL (t.enc []))]:=by simp[Jqd,h]
def Kfp:List Tree->Bool
 | a :: b :: l=>decide (0<=cmpT b a) && Kfp (b :: l)
 | _=>true
end Go.LX
namespace Go.LX
open Go Go.RowKit Go.Proofs
attribute [local irreducible] Al SWP Bi
structure Ord3 {α:Type} (P:α->Prop) (c:α->α->Int):Prop where
 self:∀ a,P a->c a a=0
 swap:∀ a b,P a->P b->c b a = -c a b
 zero:∀ a b,P a->P b->c a b=0->a=b
 trans:∀ a b d,P a->P b->P d->c a b<0->c b d<0->c a d<0
theorem Ka5:Ord3 (fun _:Int=>True) cmpI where
 self a _:=by simp[cmpI]
 swap a b _ _:=Kcs a b
 zero a b _ _ h:=(Kco a b).1 h
 trans a b d _ _ _ h1 h2:=by rw[Kcm] at *;omega
theorem Kct {a b:List UInt8}:cmpS a b<0 ↔ Op.bytesLess a b=true:=by
 rw[Jxe];by_cases e:a=b
 ·subst e;simp[E0]
 ·rw[if_neg e];by_cases h:Op.bytesLess a b=true
  ·simp[h]
  ·simp[h]
theorem Kay:Ord3 (fun _:List UInt8=>True) cmpS where
 self a _:=Jtu a
 swap a b _ _:=by
  rw[Jxe,Jxe (a:=a)];by_cases e:a=b
  ·subst e;simp
  ·by_cases h:Op.bytesLess a b=true
   ·simp[e,Ne.symm e,h,L3 h]
   ·simp[e,Ne.symm e,h,Qf (by simpa using h) e]
 zero a b _ _ h:=J4t h
 trans a b d _ _ _ h1 h2:=by rw[Kct] at *;exact H8 h1 h2
theorem Kbc {α:Type} {P:α->Prop} {c:α->α->Int} (o:Ord3 P c):Ord3 (fun l:List α=>∀ x∈l,P x) (lexI c) where
 self:=by
  intro l hl
  induction l with
  | nil=>rfl
  | cons x l ih=>rw[lexI,if_pos (o.self x (hl x Eaf))];exact ih fun y hy=>hl y (Eai _ hy)
 swap:=by
  intro l
  induction l with
  | nil=>intro m _ _;cases m<;>simp[lexI]
  | cons x l ih =>
   intro m hl hm';cases m with
   | nil=>simp[lexI]
   | cons y m =>
    have hs:=o.swap x y (hl x Eaf) (hm' y Eaf);rw[lexI,lexI];by_cases h:c x y=0
    ·rw[if_pos h,if_pos omg];exact ih m (fun z hz=>hl z (Eai _ hz)) (fun z hz=>hm' z (Eai _ hz))
    ·rw[if_neg h,if_neg omg];exact hs
 zero:=by
  intro l
  induction l with
  | nil =>
   intro m _ _ h;cases m with
   | nil=>rfl
   | cons y m=>simp[lexI] at h
  | cons x l ih =>
   intro m hl hm' h;cases m with
   | nil=>simp[lexI] at h
   | cons y m =>
    rw[lexI] at h;by_cases h0:c x y=0
    ·rw[if_pos h0] at h;rw[o.zero x y (hl x Eaf) (hm' y Eaf) h0,ih m (fun z hz=>hl z (Eai _ hz)) (fun z hz=>hm' z (Eai _ hz)) h]
    ·rw[if_neg h0] at h;exact absurd h h0
 trans:=by
  intro l
  induction l with
  | nil =>
   intro m n _ _ _ h1 h2;cases n with
   | nil =>
    cases m with
    | nil=>simp[lexI] at h1
    | cons y m=>simp[lexI] at h2
   | cons z n=>simp[lexI]
  | cons x l ih =>
   intro m n hl hm' hn h1 h2;cases m with
   | nil=>simp[lexI] at h1
   | cons y m =>
    cases n with
    | nil=>simp[lexI] at h2
    | cons z n =>
     rw[lexI] at h1 h2 ⊢;have hx:=hl x Eaf;have hy:=hm' y Eaf;have hz:=hn z Eaf;by_cases a:c x y=0
     ·have e:=o.zero x y hx hy a;subst e;rw[if_pos a] at h1;by_cases b:c x z=0
      ·rw[if_pos b] at h2 ⊢;exact ih m n (fun w hw=>hl w (Eai _ hw)) (fun w hw=>hm' w (Eai _ hw)) (fun w hw=>hn w (Eai _ hw)) h1 h2
      ·rw[if_neg b] at h2 ⊢;exact h2
     ·rw[if_neg a] at h1;by_cases b:c y z=0
      ·have e:=o.zero y z hy hz b;subst e;rw[if_neg a];exact h1
      ·rw[if_neg b] at h2;have:=o.trans x y z hx hy hz h1 h2;rw[if_neg omg];exact this
def lexP {α β:Type} (c:α->α->Int) (d:β->β->Int) (x y:α×β):Int:=if c x.1 y.1=0 then d x.2 y.2 else c x.1 y.1
theorem Jzb {α β:Type} {P:α->Prop} {Q:β->Prop} {c:α->α->Int} {d:β->β->Int} (o:Ord3 P c) (q:Ord3 Q d):Ord3 (fun x:α×β=>P x.1/\Q x.2) (lexP c d) where
 self x h:=by rw[lexP,if_pos (o.self _ h.1)];exact q.self _ h.2
 swap x y hx hy:=by
  have hs:=o.swap _ _ hx.1 hy.1;unfold lexP;by_cases h:c x.1 y.1=0
  ·rw[if_pos h,if_pos omg];exact q.swap _ _ hx.2 hy.2
  ·rw[if_neg h,if_neg omg];exact hs
 zero x y hx hy h:=by
  unfold lexP at h;by_cases h0:c x.1 y.1=0
  ·rw[if_pos h0] at h;exact Prod.ext (o.zero _ _ hx.1 hy.1 h0) (q.zero _ _ hx.2 hy.2 h)
  ·rw[if_neg h0] at h;exact absurd h h0
 trans x y z hx hy hz h1 h2:=by
  unfold lexP at *
  by_cases a:c x.1 y.1=0
  ·have e:=o.zero _ _ hx.1 hy.1 a;rw[if_pos a] at h1;rw[e];by_cases b:c y.1 z.1=0
   ·rw[if_pos b] at h2 ⊢;exact q.trans _ _ _ hx.2 hy.2 hz.2 h1 h2
   ·rw[if_neg b] at h2 ⊢;exact h2
  ·rw[if_neg a] at h1;by_cases b:c y.1 z.1=0
   ·have e:=o.zero _ _ hy.1 hz.1 b;rw[<- e,if_neg a];exact h1
   ·rw[if_neg b] at h2;have:=o.trans _ _ _ hx.1 hy.1 hz.1 h1 h2;rw[if_neg omg];exact this
theorem Kem {α β:Type} {P:α->Prop} {R:β->Prop} {c:α->α->Int} {d:β->β->Int} (f:β->α) (o:Ord3 P c) (hP:∀ x,R x->P (f x)) (hc:∀ x y,R x->R y->d x y=c (f x) (f y)) (hf:∀ x y,R x->R y->f x=f y->x=y):Ord3 R d where
 self x h:=by rw[hc x x h h];exact o.self _ (hP x h)
 swap x y h h':=by rw[hc y x h' h,hc x y h h'];exact o.swap _ _ (hP x h) (hP y h')
 zero x y h h' e:=hf x y h h' (o.zero _ _ (hP x h) (hP y h') (by rw[<- hc x y h h'];exact e))
 trans x y z h h' h'' e e':=by
  rw[hc x y h h'] at e;rw[hc y z h' h''] at e';rw[hc x z h h''];exact o.trans _ _ _ (hP x h) (hP y h') (hP z h'') e e'
theorem J1t {α β:Type} (c:β->β->Int) (g:α->β):∀ l m:List α,lexI (fun p q=>c (g p) (g q)) l m=lexI c (l.map g) (m.map g)
 | [],[]=>rfl
 | [],_ :: _=>rfl
 | _ :: _,[]=>rfl
 | x :: l,y :: m=>by
  rw[lexI,J1t c g l m];rfl
theorem Jyd:∀ {f g:Forest},f.list.map (·.1)=g.list.map (·.1)->f.list.map (·.2)=g.list.map (·.2)->f=g
 | .nil,.nil,_,_=>rfl
 | .nil,.cons _ _ _,h,_=>by simp[Forest.list] at h
 | .cons _ _ _,.nil,h,_=>by simp[Forest.list] at h
 | .cons a t r,.cons b u q,h1,h2=>by
  simp only[Forest.list,Eaq,Ec7] at h1 h2;obtain ⟨rfl,h1⟩:=h1;obtain ⟨rfl,h2⟩:=h2;rw[Jyd h1 h2]
theorem Jv4 {f:Forest} (h:(f.len:Int)=0):f=.nil:=by
 cases f with
 | nil=>rfl
 | cons a t r=>rw[Forest.len] at h;omega
def embT:Tree->Int×Int×List UInt8×List (List UInt8)×List Tree
 | .mk k s g e kids=>(k,(if k=3 then sv (ndN s g e) else 0),(if k=4 then s else []),(if k=6 then kids.list.map (·.1) else []),if k=5\/k=6 then kids.list.map (·.2) else [])
def cmpE:Int×Int×List UInt8×List (List UInt8)×List Tree->Int×Int×List UInt8×List (List UInt8)×List Tree->Int :=
 lexP cmpI (lexP cmpI (lexP cmpS (lexP (lexI cmpS) (lexI cmpT))))
theorem Kgp {t u:Tree} (ht:okT t) (hu:okT u):cmpT t u=cmpE (embT t) (embT u):=by
 obtain ⟨k,s,g,e,kids⟩:=t;obtain ⟨k',s',g',e',kids'⟩:=u;rw[Jsa];unfold cmpE embT lexP;by_cases hk:k=k'
 ·subst hk;have h1:=(Lu.1 ht).1;have h2:=(Lu.1 hu).1;simp only[Jsl,if_true];by_cases h3:k=3
  ·subst h3;rw[J48 (Jtc (Jvc h1 rfl)) (Jtc (Jvc h2 rfl))];simp only[reduceIte,Int.reduceEq,or_self,Jtu,lexI];split<;>omega
  ·by_cases h4:k=4
   ·subst h4;simp only[reduceIte,Int.reduceEq,or_self,Jsl,lexI];split<;>omega
   ·by_cases h6:k=6
    ·subst h6;simp only[reduceIte,Int.reduceEq,or_true,Jsl,Jtu];rw[Juu,J1t cmpT (fun p:KT=>p.2)]
    ·by_cases h5:k=5
     ·subst h5;simp only[reduceIte,Int.reduceEq,true_or,Jsl,Jtu,lexI];rw[Juu,J1t cmpT (fun p:KT=>p.2)]
     ·simp only[h3,h4,h5,h6,or_self,reduceIte,Jsl,Jtu,lexI]
 ·have:¬ cmpI k k'=0:=J6x hk;simp only[hk,this,if_false]
theorem Kg1 {t u:Tree} (ht:okT t) (hu:okT u) (h:embT t=embT u):t=u:=by
 obtain ⟨k,s,g,e,kids⟩:=t;obtain ⟨k',s',g',e',kids'⟩:=u;unfold embT at h;simp only[Ede] at h;obtain ⟨rfl,a,b,c,d⟩:=h;obtain ⟨h1,q1,_⟩:=Lu.1 ht;obtain ⟨h2,q2,_⟩:=Lu.1 hu;by_cases h3:k=3
 ·subst h3;simp only[if_true] at a;have:=sv_inj (Jtc (Jvc h1 rfl)) (Jtc (Jvc h2 rfl)) a;simp only[ndN,Node.mk.injEq,true_and] at this;obtain ⟨rfl,rfl,rfl⟩:=this;simp[G3] at h1 h2;rw[Jv4 (by omega:(kids.len:Int)=0),Jv4 (by omega:(kids'.len:Int)=0)]
 ·by_cases h4:k=4
  ·subst h4;simp only[if_true] at b;subst b;simp[G3] at h1 h2;obtain ⟨_,n1,rfl,rfl⟩:=h1;obtain ⟨_,n2,rfl,rfl⟩:=h2;rw[Jv4 (by omega:(kids.len:Int)=0),Jv4 (by omega:(kids'.len:Int)=0)]
  ·by_cases h6:k=6
   ·subst h6;simp only[if_true,or_true] at c d;simp[G3] at h1 h2;obtain ⟨rfl,rfl,rfl⟩:=h1;obtain ⟨rfl,rfl,rfl⟩:=h2;rw[Jyd c d]
   ·by_cases h5:k=5
    ·subst h5;simp only[if_true,true_or] at d;simp[G3] at h1 h2;obtain ⟨rfl,rfl,rfl⟩:=h1;obtain ⟨rfl,rfl,rfl⟩:=h2;have n1:∀ {f:Forest},(∀ p∈f.list,p.1=[])->f.list.map (·.1)=List.replicate (f.list.map (·.2)).length []:=fun {f} h=>by
      rw[List.eq_replicate_iff];refine ⟨by simp,fun b hb=>?_⟩;obtain ⟨p,hp,rfl⟩:=Eap.1 hb;exact h p hp
     rw[Jyd (by rw[n1 (q1.1 rfl),n1 (q2.1 rfl),d]) d]
    ·unfold G3 at h1 h2;by_cases h0:k=0\/k=1\/k=2
     ·rw[if_pos h0] at h1 h2;obtain ⟨n1,rfl,rfl,rfl⟩:=h1;obtain ⟨n2,rfl,rfl,rfl⟩:=h2;rw[Jv4 n1,Jv4 n2]
     ·rw[if_neg h0,if_neg h3,if_neg h4,if_neg omg] at h1;exact h1.elim
theorem Jw3:∀ n:Nat,Ord3 (fun t:Tree=>okT t/\(t.enc []).length<=n) cmpT
 | 0=>by
  have no:∀ t:Tree,okT t/\(t.enc []).length<=0->False:=fun t h=>by have:=Et t [];omega
  exact ⟨fun a h=>(no a h).elim,fun a _ h=>(no a h).elim,fun a _ h=>(no a h).elim,fun a _ _ h=>(no a h).elim⟩
 | n+1=>by
  refine Kem embT (Jzb Ka5 (Jzb Ka5 (Jzb Kay (Jzb (Kbc Kay) (Kbc (Jw3 n)))))) ?_ (fun x y hx hy=>Kgp hx.1 hy.1) (fun x y hx hy=>Kg1 hx.1 hy.1);rintro ⟨k,s,g,e,kids⟩ ⟨h1,h2⟩;refine ⟨trivial,trivial,trivial,fun _ _=>trivial,fun x hx=>?_⟩;unfold embT at hx;simp only at hx;split at hx
  ·obtain ⟨p,hp,rfl⟩:=Eap.1 hx;rw[A6,Ead] at h2;exact ⟨Jvb h1 hp,by have:=Jd7 hp;omega⟩
  ·cases hx
theorem Kca {a:Tree} (h:okT a):cmpT a a=0:=(Jw3 (a.enc []).length).self a ⟨h,Eah _⟩
theorem J0g {a b:Tree} (h:okT a) (h':okT b):cmpT b a = -cmpT a b:=(Jw3 (max (a.enc []).length (b.enc []).length)).swap a b ⟨h,Nat.le_max_left _ _⟩ ⟨h',Nat.le_max_right _ _⟩
theorem Jzv {a b:Tree} (h:okT a) (h':okT b) (e:cmpT a b=0):a=b:=(Jw3 (max (a.enc []).length (b.enc []).length)).zero a b ⟨h,Nat.le_max_left _ _⟩ ⟨h',Nat.le_max_right _ _⟩ e
theorem J1v {a b c:Tree} (h:okT a) (h':okT b) (h'':okT c) (e:cmpT a b<0) (e':cmpT b c<0):cmpT a c<0 :=
 (Jw3 ((a.enc []).length+(b.enc []).length+(c.enc []).length)).trans a b c ⟨h,omg⟩ ⟨h',omg⟩ ⟨h'',omg⟩ e e'
def nilT:Tree:=.mk 0 [] false 0 .nil
def Jq3 (ks:List Tree) (i:Nat):Tree:=ks.getD i nilT
theorem Jrq {ks:List Tree} {i:Nat} {t:Tree} (h:ks[i]? = some t):Jq3 ks i=t:=by simp[Jq3,Eaj,h]
def ltB (ks:List Tree) (i j:Nat):Bool:=decide (cmpT (Jq3 ks i) (Jq3 ks j)<0\/cmpT (Jq3 ks i) (Jq3 ks j)=0/\i<j)
def okK (ks:List Tree):Prop:=∀ t∈ks,okT t
theorem Jtb {ks:List Tree} (h:okK ks) (i:Nat):okT (Jq3 ks i):=by
 unfold Jq3;rw[Eaj];cases e:ks[i]? with
 | none =>
  show okT nilT;unfold nilT;rw[Lu];exact ⟨by decide,Sb 0,I6⟩
 | some t=>exact h t (Eag e)
theorem J22 {ks:List Tree} (h:okK ks) (i:Nat):ltB ks i i=false:=by
 have:=Kca (Jtb h i);simp[ltB,this]
theorem Jxl {ks:List Tree} (h:okK ks) {i j k:Nat} (a:ltB ks i j=true) (b:ltB ks j k=true):ltB ks i k=true:=by
 unfold ltB at *
 rw[decide_eq_true_eq] at *
 have oi:=Jtb h i;have oj:=Jtb h j;have ok:=Jtb h k;rcases a with a | ⟨a,a'⟩
 ·rcases b with b | ⟨b,b'⟩
  ·exact .inl (J1v oi oj ok a b)
  ·rw[<- Jzv oj ok b];exact .inl a
 ·rw[Jzv oi oj a];rcases b with b | ⟨b,b'⟩
  ·exact .inl b
  ·exact .inr ⟨b,omg⟩
theorem Kdj {ks:List Tree} (h:okK ks) {i j:Nat} (hij:i≠j) (a:ltB ks i j=false):ltB ks j i=true:=by
 unfold ltB at *
 rw[decide_eq_false_iff_not] at a;rw[decide_eq_true_eq,J0g (Jtb h i) (Jtb h j)];omega
theorem J5l {ks:List Tree} (h:okK ks) {i j:Nat} (a:ltB ks i j=true):ltB ks j i=false:=by
 cases b:ltB ks j i with
 | false=>rfl
 | true=>have:=Jxl h a b;rw[J22 h] at this;cases this
def insI (ks:List Tree) (i:Nat):List Nat->List Nat
 | []=>[i]
 | j :: l=>if ltB ks j i=true then j :: insI ks i l else i :: j :: l
def Ju9 (ks:List Tree):Nat->List Nat
 | 0=>[]
 | n+1=>insI ks n (Ju9 ks n)
def Jra (ks:List Tree):List Nat:=Ju9 ks ks.length
theorem J1x {ks:List Tree} {i j:Nat}:∀ {l:List Nat},j∈insI ks i l ↔ j=i\/j∈l
 | []=>by simp[insI]
 | k :: l=>by
  rw[insI];split
  ·rw[Eak,J1x,Eak];constructor
   ·rintro (h | h | h)
    ·exact .inr (.inl h)
    ·exact .inl h
    ·exact .inr (.inr h)
   ·rintro (h | h | h)
    ·exact .inr (.inl h)
    ·exact .inl h
    ·exact .inr (.inr h)
  ·exact Eak
theorem J9c {ks:List Tree} (h:okK ks) {i:Nat}:∀ {l:List Nat},l.Pairwise (fun a b=>ltB ks a b=true)->i ∉ l->(insI ks i l).Pairwise fun a b=>ltB ks a b=true
 | [],_,_=>by simp[insI]
 | j :: l,hp,hi=>by
  obtain ⟨h1,h2⟩:=Ebf.1 hp;have hij:i≠j:=fun e=>hi (by rw[e];exact Eaf)
  rw[insI];split
  ·rename_i c;refine Ebf.2 ⟨fun b hb=>?_,J9c h h2 (fun x=>hi (Eai _ x))⟩;rcases J1x.1 hb with rfl | hb
   ·exact c
   ·exact h1 b hb
  ·rename_i c;have c':=Kdj h (Ne.symm hij) (by simpa using c);refine Ebf.2 ⟨fun b hb=>?_,hp⟩;rcases Eak.1 hb with rfl | hb
   ·exact c'
   ·exact Jxl h c' (h1 b hb)
theorem Jz9 {ks:List Tree} {i:Nat}:∀ {n:Nat},i∈Ju9 ks n ↔ i<n
 | 0=>by simp[Ju9]
 | n+1=>by rw[Ju9,J1x,Jz9];omega
theorem J45 {ks:List Tree} (h:okK ks):∀ n:Nat,(Ju9 ks n).Pairwise fun a b=>ltB ks a b=true
 | 0=>by simp[Ju9]
 | n+1=>by
  rw[Ju9];exact J9c h (J45 h n) (fun x=>by have:=Jz9.1 x;omega)
theorem J85 {ks:List Tree} {i:Nat}:∀ {l:List Nat},(insI ks i l).length=l.length+1
 | []=>rfl
 | j :: l=>by
  rw[insI];split
  ·rw[Ead,J85,Ead]
  ·rfl
theorem J4n {ks:List Tree}:∀ {n:Nat},(Ju9 ks n).length=n
 | 0=>rfl
 | n+1=>by rw[Ju9,J85,J4n]
theorem Jsc (ks:List Tree):(Jra ks).length=ks.length:=J4n
theorem Jsz {ks:List Tree} {i:Nat}:i∈Jra ks ↔ i<ks.length:=Jz9
theorem Jz2 {ks:List Tree} (h:okK ks):(Jra ks).Pairwise fun a b=>ltB ks a b=true:=J45 h _
theorem J0z {r:Nat->Nat->Prop} (asy:∀ i j,r i j->r j i->False):∀ {a b:List Nat},a.Pairwise r->b.Pairwise r->(∀ i,i∈a ↔ i∈b)->a=b
 | [],[],_,_,_=>rfl
 | [],y :: b,_,_,h=>by have:=(h y).2 Eaf;cases this
 | x :: a,[],_,_,h=>by have:=(h x).1 Eaf;cases this
 | x :: a,y :: b,ha,hb,h=>by
  obtain ⟨a1,a2⟩:=Ebf.1 ha;obtain ⟨b1,b2⟩:=Ebf.1 hb;have e:x=y:=by
   rcases Eak.1 ((h x).1 Eaf) with e | hx
   ·exact e
   ·rcases Eak.1 ((h y).2 Eaf) with e | hy
    ·exact e.symm
    ·exact (asy x y (a1 y hy) (b1 x hx)).elim
  subst e;rw[J0z asy a2 b2 fun i=>?_];constructor
  ·intro hi;rcases Eak.1 ((h i).1 (Eai _ hi)) with e | hi'
   ·subst e;exact (asy i i (a1 i hi) (a1 i hi)).elim
   ·exact hi'
  ·intro hi;rcases Eak.1 ((h i).2 (Eai _ hi)) with e | hi'
   ·subst e;exact (asy i i (b1 i hi) (b1 i hi)).elim
   ·exact hi'
theorem J53 {ks:List Tree} (h:okK ks) {l:List Nat} (hm':∀ i,i∈l ↔ i<ks.length) (ho:l.Pairwise fun a b=>ltB ks a b=true):l=Jra ks :=
 J0z (fun i j a b=>by rw[J5l h a] at b;cases b) ho (Jz2 h) fun i=>by rw[hm',Jsz]
def Jqo (l:List Tree) (S:List Nat):List Tree:=S.map fun i=>Jq3 l i
theorem J9s (l:List Tree):Jqo l (List.range l.length)=l:=by
 unfold Jqo;apply List.ext_getElem
 ·simp
 ·intro i h1 h2;rw[List.getElem_map,List.getElem_range,Jrq (Eaa h2)]
end Go.LX
namespace Go.LX
open Go
structure YRow where
 kind:Int
 many:Int
 name:List UInt8
 s:List UInt8
 n:Int
 c:Node
def YRow.cells (r:YRow):List PV:=[.int .i64 r.kind,.int .i64 r.many,.str r.name,.str r.s,.int .i64 r.n,.int .i64 r.c.kind,.int .i64 r.c.many,.str r.c.name,.str r.c.s,.bool r.c.neg,.int .i64 r.c.e]
def rowL (v:List YRow):List (List PV):=v.map YRow.cells
mutual
inductive RT where
 | mk (kind:Int) (s:List UInt8) (n:Int) (c:Node) (kids:RF)
inductive RF where
 | nil
 | cons (name:List UInt8) (t:RT) (rest:RF)
end
def RF.len:RF->Nat
 | .nil=>0
 | .cons _ _ r=>r.len+1
mutual
def RT.enc (name:List UInt8):RT->List YRow
 | .mk k s n c kids=>⟨k,kids.len,name,s,n,c⟩ :: kids.enc
def RF.enc:RF->List YRow
 | .nil=>[]
 | .cons nm t r=>t.enc nm ++ r.enc
end
def RF.app:RF->RF->RF
 | .nil,g=>g
 | .cons nm t r,g=>.cons nm t (r.app g)
theorem Jsr:∀ f g:RF,(f.app g).len=f.len+g.len
 | .nil,g=>by simp[RF.app,RF.len]
 | .cons nm t r,g=>by simp only[RF.app,RF.len,Jsr r g];omega
theorem Jq6:∀ f g:RF,(f.app g).enc=f.enc ++ g.enc
 | .nil,g=>by simp[RF.app,RF.enc]
 | .cons nm t r,g=>by simp only[RF.app,RF.enc,Jq6 r g,Ea2]
theorem Jqs {name:List UInt8} {k:Int} {s:List UInt8} {n:Int} {c:Node} {kids:RF}:(RT.mk k s n c kids).enc name=⟨k,kids.len,name,s,n,c⟩ :: kids.enc:=by rw[RT.enc]
theorem Jqv {nm:List UInt8} {t:RT} {r:RF}:(RF.cons nm t r).enc=t.enc nm ++ r.enc:=by rw[RF.enc]
theorem Jsd:RF.nil.enc=[]:=by rw[RF.enc]
theorem Jsi (t:RT) (nm:List UInt8):1<=(t.enc nm).length:=by
 cases t;rw[Jqs];simp
theorem Jq7:∀ f:RF,f.len<=f.enc.length
 | .nil=>by simp[RF.len]
 | .cons nm t r=>by
  have:=Jsi t nm;have:=Jq7 r;rw[Jqv,Eac,RF.len];omega
@[simp] theorem Jq0 (v:List YRow):(rowL v).length=v.length:=by simp[rowL]
theorem Jxf (n:YRow) (v:List YRow):rowL (n :: v)=n.cells :: rowL v:=rfl
theorem Kei (a b:List YRow):rowL (a ++ b)=rowL a ++ rowL b:=by simp[rowL]
theorem Jr5 {k m:Int} {nm s:List UInt8} {n:Int} {c:Node}:YRow.cells ⟨k,m,nm,s,n,c⟩=[.int .i64 k,.int .i64 m,.str nm,.str s,.int .i64 n,.int .i64 c.kind,.int .i64 c.many,.str c.name,.str c.s,.bool c.neg,.int .i64 c.e]:=rfl
theorem J1h (v:List YRow):∀ q∈rowL v,q.length=11:=by
 intro q hq;obtain ⟨n,_,rfl⟩:=Eap.1 hq;rfl
theorem J4p {v:List YRow} {i:Nat} {a b:List YRow} (h:v.drop i=a ++ b):((rowL v).drop i).take a.length=rowL a:=by
 have:(rowL v).drop i=rowL a ++ rowL b:=by rw[<- Kei,<- h];simp[rowL,Ec2]
 rw[this];simp
theorem Js5 {v:List YRow} {i:Nat} {n:YRow} {b:List YRow} (h:v.drop i=n :: b):(rowL v)[i]? = some n.cells:=by
 have:v[i]? = some n:=by
  have:=congrArg (·[0]?) h;simpa using this
 simp[rowL,this]
theorem J4f {v:List YRow} {i:Nat} {a:List YRow} (h:v.drop i=a) (ha:a≠[]):i+a.length=v.length:=by
 have:=congrArg List.length h;simp at this;have:1<=a.length:=by cases a<;>simp_all
 omega
def RF.list:RF->List (List UInt8×RT)
 | .nil=>[]
 | .cons nm t r=>(nm,t) :: r.list
theorem Jq4:∀ f:RF,f.list.length=f.len
 | .nil=>rfl
 | .cons _ _ r=>by simp[RF.list,RF.len,Jq4 r]
def RT.kids:RT->RF
 | .mk _ _ _ _ k=>k
def RT.kind:RT->Int
 | .mk k _ _ _ _=>k
def RT.s:RT->List UInt8
 | .mk _ s _ _ _=>s
def RT.n:RT->Int
 | .mk _ _ n _ _=>n
def RT.c:RT->Node
 | .mk _ _ _ c _=>c
abbrev RKT:=List UInt8×RT
theorem Jve {nm:List UInt8} {t:RT} {r:RF}:(RF.cons nm t r).len=r.len+1:=rfl
theorem Jvw (t:RT) (nm:List UInt8):(t.enc nm).length=(t.enc []).length:=by
 cases t;rw[Jqs,Jqs];rfl
def rnxt (L:Nat):List YRow->Nat->Option Nat
 | _,0=>some 0
 | [],_+1=>none
 | n :: r,o+1=>if n.many<0\/(L:Int)<n.many then none else (rnxt L r (o+n.many.toNat)).map (· + 1)
theorem J5k:∀ (m:Nat) (F:RF),m<=F.len->∃ A B:RF,F=A.app B/\A.len=m
 | 0,F,_=>⟨.nil,F,rfl,rfl⟩
 | m+1,.nil,h=>by simp[RF.len] at h
 | m+1,.cons nm t r,h=>by
  obtain ⟨A,B,h1,h2⟩:=J5k m r (by simp only[RF.len] at h;omega);exact ⟨.cons nm t A,B,by rw[RF.app,<- h1],by simp only[RF.len,h2]⟩
theorem J0x {L:Nat}:∀ {v:List YRow} {o k:Nat},rnxt L v o=some k->∃ F:RF,F.len=o/\v=F.enc ++ v.drop k/\F.enc.length=k
 | v,0,k,h=>by
  simp[rnxt] at h;subst h;exact ⟨.nil,rfl,by simp[Jsd],by simp[Jsd]⟩
 | [],o+1,k,h=>by simp[rnxt] at h
 | n :: r,o+1,k,h=>by
  simp only[rnxt] at h;split at h
  ·cases h
  ·rename_i hn;obtain ⟨k',h',rfl⟩:=Eal.1 h;obtain ⟨F,h1,h2,h3⟩:=J0x h';obtain ⟨A,B,rfl,hA⟩:=J5k n.many.toNat F omg;rw[Jsr] at h1;rw[Jq6] at h2 h3;refine ⟨.cons n.name (.mk n.kind n.s n.n n.c A) B,by simp only[RF.len];omega,?_,?_⟩
   ·rw[Jqv,Jqs,Ecd];have e:(⟨n.kind,A.len,n.name,n.s,n.n,n.c⟩:YRow)=n:=by
     have:(A.len:Int)=n.many:=by omega
     rw[this]
    rw[e];simp only[Ebh,Ea2];congr 1;rw[<- Ea2];exact h2
   ·rw[Jqv,Jqs,Eac,Ead];rw[Eac] at h3;omega
theorem Kfe {L:Nat}:∀ (n:Nat) (F:RF) (r:List YRow),F.enc.length<=n->F.enc.length<=L->rnxt L (F.enc ++ r) F.len=some F.enc.length
 | _,.nil,r,_,_=>by simp[RF.len,rnxt,Jsd]
 | 0,.cons nm t rest,r,h,_=>by
  have:=Jsi t nm;rw[Jqv,Eac] at h;omega
 | n+1,.cons nm (.mk k s g e kids) rest,r,h,hL=>by
  rw[Jqv,Jqs,Eac,Ead] at h hL;have hk:=Jq7 kids;have ih:=Kfe (L:=L) n (kids.app rest) r (by rw[Jq6,Eac];omega) (by rw[Jq6,Eac];omega);rw[Jq6,Jsr,Ea2,Eac] at ih;simp only[Jqv,Jqs,Ebh,Ea2,RF.len,rnxt];rw[if_neg omg];simp only[Int.toNat_natCast];rw[Ecw rest.len,ih];simp only[Option.map_some,Ead,Eac]
theorem J8d {v:List YRow}:rnxt v.length v 1=some v.length ↔ ∃ nm t,v=RT.enc nm t:=by
 constructor
 ·intro h;obtain ⟨F,h1,h2,h3⟩:=J0x h;rw[List.drop_length,Eaw] at h2
  match F,h1,h2 with
  | .cons nm t .nil,_,h2=>exact ⟨nm,t,by rw[h2,Jqv,Jsd,Eaw]⟩
 ·rintro ⟨nm,t,rfl⟩;have:=Kfe (L:=(t.enc nm).length) (t.enc nm).length (.cons nm t .nil) [] (by rw[Jqv,Jsd];simp) (by rw[Jqv,Jsd];simp);simpa[Jqv,Jsd,RF.len] using this
def Jtm (v:List YRow) (i o:Nat):Int:=match rnxt v.length (v.drop i) o with
 | some k=>((i+k:Nat):Int)
 | none=>-1
theorem J96 (v:List YRow) (i:Nat):Jtm v i 0=i:=by
 unfold Jtm;have:rnxt v.length (v.drop i) 0=some 0:=by cases v.drop i<;>rfl
 rw[this];rfl
theorem Kcj {v:List YRow} {i o:Nat} (h:v.length<=i) (ho:0<o):Jtm v i o = -1:=by
 unfold Jtm;rw[Eao h];cases o with
 | zero=>omega
 | succ o=>rfl
theorem Kb1 {v:List YRow} {i o:Nat} {n:YRow} (h:v[i]? = some n) (ho:0<o) (hb:n.many<0\/(v.length:Int)<n.many):Jtm v i o = -1:=by
 have hi:=(Eab.1 h).1;unfold Jtm;rw[Eaz hi,(Eab.1 h).2];cases o with
 | zero=>omega
 | succ o=>simp only[rnxt];rw[if_pos hb]
theorem J99 {v:List YRow} {i o:Nat} {n:YRow} (h:v[i]? = some n) (hb:¬ (n.many<0\/(v.length:Int)<n.many)):Jtm v i (o+1)=Jtm v (i+1) (o+n.many.toNat):=by
 have hi:=(Eab.1 h).1;unfold Jtm;rw[Eaz hi,(Eab.1 h).2];simp only[rnxt];rw[if_neg hb];cases rnxt v.length (v.drop (i+1)) (o+n.many.toNat) with
 | none=>rfl
 | some k=>simp only[Option.map_some];omega
theorem Jzc {v:List YRow} {i:Nat} {n:YRow} (h:v[i]? = some n):(rowL v)[i]? = some [.int .i64 n.kind,.int .i64 n.many,.str n.name,.str n.s,.int .i64 n.n,.int .i64 n.c.kind,.int .i64 n.c.many,.str n.c.name,.str n.c.s,.bool n.c.neg,.int .i64 n.c.e]:=by
 simp[rowL,h,YRow.cells]
theorem J2q:∀ {a b c d:RF},a.app b=c.app d->a.len=c.len->a=c/\b=d
 | .nil,b,.nil,d,h,_=>⟨rfl,h⟩
 | .nil,_,.cons _ _ _,_,_,h=>by simp[RF.len] at h
 | .cons _ _ _,_,.nil,_,_,h=>by simp[RF.len] at h
 | .cons nm t a,b,.cons nm' t' c,d,h,hl=>by
  rw[RF.app,RF.app] at h;injection h with h1 h2 h3
  obtain ⟨rfl,rfl⟩:=J2q (a:=a) (b:=b) (c:=c) (d:=d) h3 (by simpa[RF.len] using hl);exact ⟨by rw[h1,h2],rfl⟩
theorem Kfj:∀ (n:Nat) {F G:RF},F.enc.length<=n->F.len=G.len->F.enc=G.enc->F=G
 | _,.nil,.nil,_,_,_=>rfl
 | _,.nil,.cons _ _ _,_,h,_=>by simp[RF.len] at h
 | _,.cons _ _ _,.nil,_,h,_=>by simp[RF.len] at h
 | 0,.cons nm t r,.cons _ _ _,h,_,_=>by
  have:=Jsi t nm;rw[Jqv,Eac] at h;omega
 | n+1,.cons nm (.mk k s g e kids) r,.cons nm' (.mk k' s' g' e' kids') r',h,hl,he=>by
  rw[Jqv,Jqs,Eac,Ead] at h;rw[Jqv,Jqv,Jqs,Jqs,Ebh,Ebh] at he;injection he with h1 h2
  injection h1 with g1 g2 g3 g4 g5 g6
  rw[<- Jq6,<- Jq6] at h2;simp only[RF.len] at hl;have hk:kids.len=kids'.len:=by omega
  have:=Kfj n (F:=kids.app r) (G:=kids'.app r') (by rw[Jq6,Eac];omega) (by rw[Jsr,Jsr];omega) h2;obtain ⟨rfl,rfl⟩:=J2q this hk;rw[g1,g3,g4,g5,g6]
theorem Kep {t u:RT} {a b:List UInt8} (h:t.enc a=u.enc b):a=b/\t=u:=by
 have:=Kfj (RF.cons a t .nil).enc.length (F:=.cons a t .nil) (G:=.cons b u .nil) (Eah _) rfl (by rw[Jqv,Jqv,h]);injection this with h1 h2 _
 exact ⟨h1,h2⟩
theorem J9g {v:List YRow} (h:Jtm v 0 1=v.length):∃ nm t,v=RT.enc nm t:=by
 refine J8d.1 ?_;unfold Jtm at h;rw[Ebn] at h;cases hn:rnxt v.length v 1 with
 | none=>rw[hn] at h;simp at h
 | some k=>rw[hn] at h;simp at h;rw[show k=v.length by omega]
def Juf:Node:=⟨0,0,[],[],false,0⟩
def Js2 (c:Node):Prop:=c.kind<5/\c.name=[]/\G3 c.kind c.s c.neg c.e c.many
instance (c:Node):Decidable (Js2 c):=by unfold Js2;infer_instance
def J93 (n:Int) (c:Node):Prop:=0<=n/\n<=5/\Js2 c
instance (n:Int) (c:Node):Decidable (J93 n c):=by unfold J93;infer_instance
def fldS (s:List UInt8):Prop:=(Je s).2.2=0/\∀ x∈(Je s).1,x.part=false
instance (s:List UInt8):Decidable (fldS s):=by unfold fldS;infer_instance
def Kdt (k:Int) (s:List UInt8) (n:Int) (c:Node) (m:Int):Prop :=
 if k=0 then m=0/\s=[]/\n=0/\c=Juf
 else if k=1 then 0<=m/\1<=n/\n<=31/\s=[]/\c=Juf
 else if k=9 then m=0/\s=[]/\J93 n c
 else if k=2 then 0<=m/\(n=0\/n=1)/\s=[]/\c=Juf
 else if k=4 then 0<=m/\n=0/\s=[]/\c=Juf
 else if k=3\/k=5\/k=6 then m=1/\n=0/\s=[]/\c=Juf
 else if k=7\/k=8 then m=1/\n=0/\c=Juf/\fldS s
 else False
instance (k:Int) (s:List UInt8) (n:Int) (c:Node) (m:Int):Decidable (Kdt k s n c m):=by unfold Kdt;infer_instance
def RRise (l:List RKT):Prop:=l.Pairwise fun p q=>Op.bytesLess p.1 q.1=true
def rkidOK (k:Int) (p:RKT):Prop:=(p.2.kind=9 ↔ k=1)/\(k≠2->p.1=[])/\(k=2->valid p.1=true)
def Khk (k:Int) (l:List RKT):Prop:=(∀ p∈l,rkidOK k p)/\(k=2->RRise l)
def findR (name:List UInt8):List RKT->Option RT
 | []=>none
 | p :: l=>if p.1=name then some p.2 else findR name l
def leadR:RT->List Step->Option RT
 | t,[]=>some t
 | t,x :: p=>if t.kind=2/\x.part=false then (findR x.name t.kids.list).bind fun u=>leadR u p else none
def Kgk (t:RT) (p:List Step):Prop:=∃ u,leadR t p=some u/\u.kind=1
def leadOK (k:Int) (s:List UInt8) (l:List RKT):Prop:=(k=7\/k=8)->∀ p,l.head? = some p->Kgk p.2 (Je s).1
mutual
def okR:RT->Prop
 | .mk k s n c kids=>Kdt k s n c kids.len/\Khk k kids.list/\leadOK k s kids.list/\okRF kids
def okRF:RF->Prop
 | .nil=>True
 | .cons _ t r=>okR t/\okRF r
end
theorem okRF_nil:okRF .nil:=by rw[okRF];trivial
end Go.LX
namespace Go.LX
open Go Go.RowKit Go.Proofs
attribute [local irreducible] Al SWP Bi
def Kgi:Nat->RF->List (List PV)
 | _,.nil=>[]
 | i,.cons nm t r=>[.int .i64 i,.int .i64 (i+(t.enc nm).length:Nat)] :: Kgi (i+(t.enc nm).length) r
def Jrk (l:List RKT):List (List PV):=l.map fun p=>[.sl (rowL (p.2.enc []))]
@[simp] theorem tpartL_nil:Jrk []=[]:=rfl
theorem Jwq {l:List RKT} {k:Nat} {p:List UInt8×RT} (h:l[k]? = some p):Jrk (l.take (k+1))=Jrk (l.take k) ++ [[.sl (rowL (p.2.enc []))]]:=by
 rw[Ebc,h];simp[Jrk]
theorem Jrg (l:List RKT):(Jrk l).length=l.length:=by simp[Jrk]
theorem Jr8 {l:List RKT} {i:Nat} {p:RKT} (h:l[i]? = some p):(Jrk l)[i]? = some [.sl (rowL (p.2.enc []))]:=by simp[Jrk,h]
def atomL (l:List (Int×Node)):List (List PV):=l.map fun a=>[.int .i64 a.1,.int .i64 a.2.kind,.int .i64 a.2.many,.str a.2.name,.str a.2.s,.bool a.2.neg,.int .i64 a.2.e]
def Khe (l:List RKT):List (Int×Node):=l.map fun p=>(p.2.n,p.2.c)
end Go.LX
namespace Go.LX
open Go
def ndT (n:Node):Tree:=.mk n.kind n.s n.neg n.e .nil
def rootN:Tree->Node
 | .mk k s g e kids=>⟨k,kids.len,[],s,g,e⟩
def leafB:Tree->Bool
 | .mk _ _ _ _ .nil=>true
 | .mk _ _ _ _ (.cons _ _ _)=>false
def J0l (n c:Int):Bool :=
 if n=0 then decide (c=0) else if n=1 then decide (c≠0) else if n=2 then decide (c<0) else if n=3 then decide (c<=0) else if n=4 then decide (0<c) else decide (0<=c)
def holdsB (a:Int×Node) (x:Node):Bool:=J0l a.1 (cmpT (ndT x) (ndT a.2))
def letsB (mask kind:Int):Bool:=decide (mask.toNat / 2 ^ kind.toNat % 2=1)
def Kgr (mask:Int) (l:List (Int×Node)) (x:Node):Bool:=decide (Js2 x) && (letsB mask x.kind && l.all fun a=>holdsB a x)
def keyV (s:List UInt8) (v:Tree):List Node:=match getT (Je s).1 v with
 | .ok u=>u.enc []
 | .error _=>[]
def keyT (s:List UInt8) (v:Tree):Tree:=match getT (Je s).1 v with
 | .ok u=>u
 | .error _=>.mk 0 [] false 0 .nil
def J73 (ps:List (Tree->Bool)):Tree->Bool:=match ps with
 | []=>fun _=>true
 | p :: _=>p
def partP (kids:List KT) (nm:List UInt8) (p:Tree->Bool):Bool:=match Ch nm kids with
 | some u=>p u
 | none=>false
def objS (kids:List KT):List RKT->List (Tree->Bool)->Bool
 | r :: rows,p :: ps=>partP kids r.1 p && objS kids rows ps
 | _,_=>true
def tupS:List (Tree->Bool)->List KT->Bool
 | [],[]=>true
 | p :: ps,q :: l=>p q.2 && tupS ps l
 | [],_ :: _=>false
 | _ :: _,[]=>false
def sKey:List UInt8:=[107,101,121]
def sVal:List UInt8:=[118,97,108,117,101]
def entK:Tree->Option (List UInt8×Tree)
 | .mk k _ _ _ kids=>if k=6/\kids.len=2 then (match Ch sKey kids.list,Ch sVal kids.list with
  | some (.mk k' s' _ _ _),some x=>if k'=4 then some (s',x) else none
  | _,_=>none) else none
def ahead (last:Option (List UInt8)) (key:List UInt8):Bool:=match last with
 | none=>true
 | some l=>Op.bytesLess l key
def entS (P:Tree->Bool):Option (List UInt8)->List KT->Bool
 | _,[]=>true
 | last,q :: l=>match entK q.2 with
  | none=>false
  | some (key,x)=>ahead last key && (P x && entS P (some key) l)
def Kec (a b:Tree):Bool:=decide (a.enc []=b.enc [])
def aheadT (last:Option Tree) (key:Tree):Bool:=match last with
 | none=>true
 | some l=>decide (cmpT l key<0)
def Kdv (P:Tree->Bool) (q:KT):Bool:=decide (q.2.kind=5) && (decide (q.2.kids.len≠0) && q.2.kids.list.all fun x=>P x.2)
def J26 (s:List UInt8) (l:List KT):List Tree:=l.map fun q=>keyT s q.2
def Ket (l:List Tree):Tree:=l.headD (.mk 0 [] false 0 .nil)
def Kf2 (P:Tree->Bool) (s:List UInt8):Option Tree->List KT->Bool
 | _,[]=>true
 | last,q :: l=>Kdv P q && (((J26 s q.2.kids.list).all fun k=>Kec k (Ket (J26 s q.2.kids.list))) && (aheadT last (Ket (J26 s q.2.kids.list)) && Kf2 P s (some (Ket (J26 s q.2.kids.list))) l))
def allP (P:Tree->Bool) (l:List KT):Bool:=l.all fun q=>P q.2
def inK (k:Int) (s:List UInt8) (n:Int) (rows:List RKT) (ps:List (Tree->Bool)) (v:Tree):Bool :=
 if k=0 then true
 else if k=1 then leafB v && Kgr n (Khe rows) (rootN v)
 else if k=2 then decide (v.kind=6) && ((decide (n≠0) || decide (v.kids.len=rows.length)) && objS v.kids.list rows ps)
 else if k=3 then decide (v.kind=6) && allP (J73 ps) v.kids.list
 else decide (v.kind=5) && (
  if k=4 then tupS ps v.kids.list
  else if k=6 then entS (J73 ps) none v.kids.list
  else if k=8 then Kf2 (J73 ps) s none v.kids.list
  else if k=7 then allP (J73 ps) v.kids.list && Kfp (J26 s v.kids.list)
  else allP (J73 ps) v.kids.list)
end Go.LX
namespace Go.LX
open Go Go.Proofs
end Go.LX
namespace Go.LX
open Go Go.RowKit Go.Proofs
attribute [local irreducible] Al SWP Bi
theorem J2p {n:Node} (h:Js2 n):n.many=0:=by
 obtain ⟨hk,_,h⟩:=h;unfold G3 at h;split at h
 ·exact h.1
 ·split at h
  ·exact h.1
  ·split at h
   ·exact h.2.1
   ·split at h
    ·omega
    ·exact h.elim
theorem J9y {n:Node} (h:Js2 n):okT (ndT n):=by
 have hm:=J2p h;obtain ⟨hk,hn,ho⟩:=h;rw[hm] at ho;exact Lu.2 ⟨ho,Sb _,I6⟩
theorem Kho {n:Node} (h:Js2 n):(ndT n).enc []=[n]:=by
 have hm:=J2p h;obtain ⟨hk,hn,ho⟩:=h;rw[ndT,A6,Bl];cases n;simp only at hm hn;subst hm;subst hn;rfl
theorem J81 {n:Node} (hk:n.kind<5):Jw [n]=decide (Js2 n):=by
 rw[Ea4,Iq,decide_eq_true_eq];constructor
 ·rintro ⟨t,ht,h⟩;cases t with
  | mk k s g e kids =>
   rw[A6] at h;have h1:=(List.cons.inj h).1;have h2:=(List.cons.inj h).2;cases kids with
   | nil =>
    subst h1;exact ⟨hk,rfl,(Lu.1 ht).1⟩
   | cons a b c =>
    rw[A0] at h2;have:=congrArg List.length h2;have hp:=Et b a;simp at this;omega
 ·intro h;exact ⟨ndT n,J9y h,(Kho h).symm⟩
end Go.LX
namespace Go.LX
open Go Go.RowKit Go.Proofs Go.Proofs.Tryz
attribute [local irreducible] Al SWP Bi
theorem Jvs (s:List UInt8):(Je s).1.length<=20/\∀ x∈(Je s).1,Bc x:=by
 by_cases h:(Je s).2.2=0
 ·obtain ⟨_,h2,_⟩:=Kb0 h;exact h2
 ·obtain ⟨_,h2,_⟩:=Kbt h;rw[h2];exact ⟨by simp,by simp⟩
def keysL (s:List UInt8) (l:List KT):List (List PV):=l.map fun q=>[.sl (valL (keyV s q.2))]
def Jyj (t:Tree) (name:List UInt8):Option Tree:=if t.kind=6 then Ch name t.kids.list else none
theorem J2v (t:Tree) (name:List UInt8) (hv:(t.enc []).length<=1500000000000):Det cx 92 [.p (.sl (valL (t.enc []))),.p (.str name)] [] (Oo (Jyj t name)) []:=by
 cases t with
 | mk k s g e kids =>
 rw[A6,Ead] at hv;by_cases hk:k=6
 ·subst hk;exact Jdk [] s g e kids name omg
 ·have hf:Jyj (.mk k s g e kids) name=none:=if_neg hk;have hg:=Cc [] k s g e kids;have c1:(k=6)=False:=eq_false hk;rw[hf,Oo];(refine bgo func92 ?_;simp only[go_sem,simprocAttr,hg,c1,not_false_eq_true])
  skip
end Go.LX
namespace Go.LX
open Go Go.RowKit Go.Proofs
attribute [local irreducible] Al SWP Bi
theorem Jzt {v:List YRow} {j:Nat} {nm:List UInt8} {t:RT} {b:List YRow} (h:v.drop j=t.enc nm ++ b):∃ (k n:Int) (s:List UInt8) (g:Int) (e:Node),(rowL v)[j]? = some [.int .i64 k,.int .i64 n,.str nm,.str s,.int .i64 g,.int .i64 e.kind,.int .i64 e.many,.str e.name,.str e.s,.bool e.neg,.int .i64 e.e]:=by
 cases t with
 | mk k s g e kids =>
  rw[Jqs] at h;exact ⟨k,kids.len,s,g,e,Js5 h⟩
def Jtl (l:List (List UInt8×RT)):List (List PV):=l.map fun p=>[.str p.1]
@[simp] theorem tnameL_nil:Jtl []=[]:=rfl
def placeR (rows:List RKT) (i:Nat):Nat:=1+((rows.take i).map fun p=>(p.2.enc p.1).length).sum
def Jrc (x:Step) (t:Tree):Except Nat Tree :=
 if t.kind=0 then .ok nilT else if x.part=true then (if t.kind=5 then .ok ((t.kids.list[x.n.toNat]?.map (·.2)).getD nilT) else .error 5) else if t.kind=6 then .ok ((Ch x.name t.kids.list).getD nilT) else .error 5
def Jrd:List Step->Tree->Except Nat Tree
 | [],t=>.ok t
 | x :: p,t=>match Jrc x t with
  | .ok u=>Jrd p u
  | .error e=>.error e
theorem J7x:valL (nilT.enc [])=[[.int .i64 0,.int .i64 0,.str [],.str [],.bool false,.int .i64 0]]:=by unfold nilT;rw[A6,Bl];rfl
theorem Jt1:(nilT.enc []).length=1:=by unfold nilT;rw[A6,Bl];rfl
def resV:Except Nat Tree->PV
 | .ok t=>.sl (valL (t.enc []))
 | .error _=>.snil
def resE:Except Nat Tree->Int
 | .ok _=>0
 | .error e=>e
theorem Jqz (r:Except Nat Tree):getR r=.tup [resV r,.int .i64 (resE r)]:=by cases r<;>rfl
theorem Jvo {x:Step} {t u:Tree} (h:Jrc x t=.ok u):(u.enc []).length<=(t.enc []).length:=by
 have h1:=Et t [];have hn:(nilT.enc []).length<=(t.enc []).length:=by rw[Jt1];exact h1
 have hk:∀ p∈t.kids.list,(p.2.enc []).length<=(t.enc []).length:=by
  obtain ⟨k,s,g,e,kids⟩:=t;intro p hp;have:=Jd7 hp;rw[A6,Ead];simp only[Tree.kids] at this;omega
 unfold Jrc at h;split at h
 ·cases h;exact hn
 ·split at h
  ·split at h
   ·cases h;cases hq:t.kids.list[x.n.toNat]? with
    | none=>exact hn
    | some p=>exact hk p (Eag hq)
   ·cases h
  ·split at h
   ·cases h;cases hq:Ch x.name t.kids.list with
    | none=>exact hn
    | some w =>
     obtain ⟨p,hp,rfl,_⟩:=Kj7 hq;exact hk p hp
   ·cases h
theorem Juj {x:Step} {t:Tree} {er:Nat} (h:Jrc x t=.error er):er=5:=by
 unfold Jrc at h
 repeat' split at h
 all_goals first
  | (cases h;rfl)
  | cases h
theorem Jxh:∀ {p:List Step} {t u:Tree},Jrd p t=.ok u->(u.enc []).length<=(t.enc []).length
 | [],t,u,h=>by rw[Jrd] at h;cases h;exact Eah _
 | x :: p,t,u,h=>by
  rw[Jrd] at h;cases hs:Jrc x t with
  | ok w=>rw[hs] at h;exact Nat.le_trans (Jxh h) (Jvo hs)
  | error e=>rw[hs] at h;cases h
theorem Jsp:∀ {p:List Step} {t:Tree} {er:Nat},Jrd p t=.error er->er=5
 | [],t,er,h=>by rw[Jrd] at h;cases h
 | x :: p,t,er,h=>by
  rw[Jrd] at h;cases hs:Jrc x t with
  | ok w=>rw[hs] at h;exact Jsp h
  | error e=>rw[hs] at h;cases h;exact Juj hs
theorem J3f {nm:List UInt8} {n:Int} {s:List UInt8} {g:Bool} {e:Int} {kids:Forest} {b:Bool}:Jrc ⟨b,nm,n⟩ (.mk 0 s g e kids)=.ok nilT:=by unfold Jrc;exact if_pos rfl
theorem Jw4 {nm:List UInt8} {n:Int} {s:List UInt8} {g:Bool} {e:Int} {kids:Forest}:Jrc ⟨false,nm,n⟩ (.mk 6 s g e kids)=.ok ((Ch nm kids.list).getD nilT):=by unfold Jrc;simp[Tree.kind,Tree.kids]
theorem Jyn {nm:List UInt8} {n:Int} {k:Int} {s:List UInt8} {g:Bool} {e:Int} {kids:Forest} (h0:¬ k=0) (h6:¬ k=6):Jrc ⟨false,nm,n⟩ (.mk k s g e kids)=.error 5:=by unfold Jrc;simp[Tree.kind,h0,h6]
theorem Jza {nm:List UInt8} {n:Int} {s:List UInt8} {g:Bool} {e:Int} {kids:Forest}:Jrc ⟨true,nm,n⟩ (.mk 5 s g e kids)=.ok ((kids.list[n.toNat]?.map (·.2)).getD nilT):=by unfold Jrc;simp[Tree.kind,Tree.kids]
theorem J3l {nm:List UInt8} {n:Int} {k:Int} {s:List UInt8} {g:Bool} {e:Int} {kids:Forest} (h0:¬ k=0) (h6:¬ k=5):Jrc ⟨true,nm,n⟩ (.mk k s g e kids)=.error 5:=by unfold Jrc;simp[Tree.kind,h0,h6]
end Go.LX
