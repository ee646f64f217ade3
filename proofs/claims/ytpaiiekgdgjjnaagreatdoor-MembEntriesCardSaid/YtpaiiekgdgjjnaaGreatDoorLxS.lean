/- Paths: texts, there and back: plain laws. -/
import Derived.Test.YtpaiiekgdgjjnaaGreatDoorLxP
import Derived.Test.YtpaiiekgdgjjnaaGreatDoorLxQ
import Derived.Test.YtpaiiekgdgjjnaaGreatDoorLxR
import Derived.Test.YtpaiiekgdgjjnaaGreatDoorLxK
import Derived.OpenShut
import Derived.WideKeyArgs
import Derived.Below
import Derived.ProofKit
import Derived.WalkKit
import Derived.ChangeSame
import Derived.Test.YtpaiiekgdgjjnaaGreatDoorCards
import Derived.Test.YtpaiiekgdgjjnaaGreatDoorTie
import Derived.Deep.DeepHandedRow
import Derived.Deep.DeepWitnessRowRef
import Derived.Deep.Slices
import Derived.Lib.LaidIn
import Derived.Lib.LaidU8T
import Derived.Lib.LaidTab
import Derived.SizedLaws
import Derived.Test.YtpaiiekgdgjjnaaGreatDoorLxM
set_option linter.unusedSimpArgs false
set_option linter.unusedVariables false
set_option linter.unusedSectionVars false
set_option linter.unnecessarySimpa false
set_option maxRecDepth 100000
set_option maxHeartbeats 2000000
namespace Go.LX
open Go Go.RowKit Go.Proofs
attribute [local irreducible] Al SWP Bi
theorem Ww {s:List UInt8} {m:Nat} (h1:m≤s.length) (h2:∀ j,j<m→H3 s j) (h3:m<s.length→¬ H3 s m):Dm s=m:=by
 have hle:=P3 s;rcases Nat.lt_trichotomy (Dm s) m with h | h | h
 ·exact absurd (h2 _ h) (Jam omg)
 ·exact h
 ·exact absurd (Sh h) (h3 omg)
theorem Xk:∀ (k m:Nat),m<10 ^ (k+1)→(Lib.decDigits m).length≤k+1
 | 0,m,h=>by
  rw [Fv,if_pos (by simpa using h)];simp
 | k+1,m,h=>by
  rw [Fv];split
  ·simp
  ·have:=Xk k (m / 10) (by rw [Nat.pow_succ] at h;omega);rw [List.length_append];simp;omega
theorem J30:∀ {s:List UInt8},(∀ c∈s,c.toNat<128)→valid s=true:=by
 intro s h;refine Jb.2 ⟨s.map fun c=>(c.toNat:Int),?_,?_⟩
 ·intro r hr;obtain ⟨c,hc,rfl⟩:=List.mem_map.1 hr;have:=h c hc;unfold Cy;omega
 ·induction s with
  | nil=>rfl
  | cons c s ih =>
   rw [List.map_cons,Ki,← ih fun d hd=>h d (List.mem_cons_of_mem _ hd)];have hc:=h c List.mem_cons_self;have:utf (c.toNat:Int)=[c]:=by
    unfold utf;rw [Nb ⟨by omega,by omega⟩];have e:((c.toNat:Int) % 256).toNat=c.toNat:=by omega
    simp [u8of,e]
   rw [this];rfl
theorem J3l {s:List UInt8} {j:Nat} (h:H3 s j):at_ s j<128:=by
 unfold H3 letP figP at h;omega
theorem Jzw {s:List UInt8} (h:(Bw s).2≠0):Bc (Bw s).1∧(Bw s).1.part=false∧s.take (Bw s).2=Bv (Bw s).1∧(Bw s).2≤s.length:=by
 have hle:=Jf2 s;unfold Bw at h ⊢;split at h
 case isFalse=>exact absurd rfl h
 rename_i h46;rw [if_pos h46];obtain ⟨r,rfl⟩:∃ r,s=46 :: r:=by
  cases s with
  | nil=>simp at h46
  | cons c r=>simp at h46;exact ⟨r,by rw [h46]⟩
 simp only [List.drop_succ_cons,List.drop_zero] at h ⊢;have hwl:=P3 r;split at h
 ·rename_i hw;rw [if_pos hw];have hwd:isWd (r.take (Dm r)):=by
   refine ⟨fun e=>?_,Ww (Nat.le_refl _) (fun j hj=>?_) (fun h=>absurd h (Nat.lt_irrefl _))⟩
   ·have:=congrArg List.length e;rw [List.length_take,List.length_nil] at this;omega
   ·simp at hj;have:=Sh (s:=r) (j:=j) omg;unfold H3 at this ⊢;rw [J6z omg];exact this
  refine ⟨?_,rfl,?_,by simp;omega⟩
  ·unfold Bc;rw [if_neg sm];refine ⟨rfl,J30 fun c hc=>?_⟩;obtain ⟨j,hj,rfl⟩:=List.getElem_of_mem hc;simp at hj;have:=J3l (Sh (s:=r) (j:=j) omg);rw [Ql omg] at this;simpa using this
  ·unfold Bv;rw [if_neg sm,if_pos hwd,List.take_succ_cons]
 ·rename_i hw;rw [if_neg hw];split at h
  ·exact absurd rfl h
  ·rename_i hc;rw [if_neg hc];simp only [not_or,ne_eq,Decidable.not_not] at hc;obtain ⟨c1,c2,c3⟩:=hc;have hg:=Jni c1;refine ⟨?_,rfl,?_,by simp;omega⟩
   ·unfold Bc;rw [if_neg sm];exact ⟨rfl,hg.1⟩
   ·unfold Bv;rw [if_neg sm,if_neg c2,List.take_succ_cons,c3]
theorem Kbw {r:List UInt8} (h0:dgR 7 r≠[]) (h1:¬ (at_ r 0=48∧1<(dgR 7 r).length)):r.take (dgR 7 r).length=dgR 7 r∧Lib.decDigits (valD (dgR 7 r))=dgR 7 r:=by
 have hp:=Jdy 7 r;have hall:=Jc6 7 r;generalize dgR 7 r=t at *
 have hlt:0<t.length:=List.length_pos_iff.2 h0;have ha0:at_ t 0=at_ r 0:=by
  rw [hp];simp only [at_,List.getD_eq_getElem?_getD];rw [List.getElem?_take_of_lt omg]
 exact ⟨hp.symm,(Sa (t.length - 1) t omg hall (by rw [ha0];omega)).1⟩
theorem J13 {s:List UInt8} (h:(Ce s).2≠0):Bc (Ce s).1∧(Ce s).1.part=true∧s.take (Ce s).2=Bv (Ce s).1∧(Ce s).2≤s.length:=by
 have hle:=Zo s;have h91:s.take 1=[91]:=by
  unfold Ce at h;split at h
  ·rename_i hc;exact hc.1
  ·exact absurd rfl h
 obtain ⟨r,rfl⟩:∃ r,s=91 :: r:=by
  cases s with
  | nil=>simp at h91
  | cons c r=>simp at h91;exact ⟨r,by rw [h91]⟩
 obtain ⟨g1,g2,g3,g4⟩:=J0d h;have hf:=Jle g1 g2 g3 g4;have hlen:=Jd2 7 r;rw [hf];rw [hf] at hle;refine ⟨?_,rfl,?_,hle⟩
 ·unfold Bc;rw [if_pos rfl];exact ⟨rfl,by simp only;omega,by simp only;omega⟩
 ·unfold Bv;rw [if_pos rfl];simp only [Lib.itoa_nonneg];obtain ⟨hq,hcan⟩:=Kbw g1 g2;rw [hcan,List.take_succ_cons];congr 1;rw [List.take_add_one,hq,g4];rfl
theorem J5k {s:List UInt8} {i:Nat} (hi:0<i) (h:(Ee s i).2≠0):Bc (Ee s i).1∧(s.drop i).take (Ee s i).2=Bv (Ee s i).1:=by
 unfold Ee at h ⊢;split at h
 ·rename_i hf;rw [if_pos hf];have:=Jzw hf;exact ⟨this.1,this.2.2.1⟩
 ·rename_i hf;rw [if_neg hf,if_neg omg];rw [if_neg omg] at h;have:=J13 h;exact ⟨this.1,this.2.2.1⟩
theorem Jz7:∀ (f:Nat) (s:List UInt8) (i:Nat) (p:List Step),0<i→i≤s.length→p.length≤20→∃ q,(Fl s f i p).1=p ++ q∧(∀ x∈q,Bc x)∧(Fl s f i p).1.length≤20∧s.drop i=Br q ++ s.drop (Fl s f i p).2∧(Fl s f i p).2≤s.length
 | 0,s,i,p,_,hi,hp=>⟨[],by simp [Fl],by simp,by simpa [Fl] using hp,by simp [Fl,Br],by simpa [Fl] using hi⟩
 | f+1,s,i,p,h0,hi,hp=>by
  rw [Fl];split
  ·rename_i hc;obtain ⟨c1,c2,c3⟩:=hc;obtain ⟨g1,g2⟩:=J5k h0 c3;have hle:=Jw4 hi;obtain ⟨q,k1,k2,k3,k4,k5⟩:=Jz7 f s (i+(Ee s i).2) (p ++ [(Ee s i).1]) omg hle (by simp;omega);refine ⟨(Ee s i).1 :: q,by rw [k1];simp,fun x hx=>?_,k3,?_,k5⟩
   ·rcases List.mem_cons.1 hx with rfl | hx
    ·exact g1
    ·exact k2 x hx
   ·have e:Br ((Ee s i).1 :: q)=Bv (Ee s i).1 ++ Br q:=rfl;rw [e,← g2,List.append_assoc,← k4,← List.drop_drop,List.take_append_drop]
  ·exact ⟨[],by simp,by simp,hp,by simp [Br],hi⟩
theorem J7u {s:List UInt8} (h:(Je s).2.2=0):(Je s).2.1=0∧E9 (Je s).1∧Hy (Je s).1=s:=by
 unfold Je at h ⊢;by_cases h1:s=[46]
 ·rw [if_pos h1];exact ⟨rfl,⟨by simp,by simp⟩,by rw [h1];rfl⟩
 ·rw [if_neg h1] at h ⊢;split at h
  ·cases h
  ·rename_i hc;rw [if_neg hc];simp only [not_or,Nat.not_lt] at hc;obtain ⟨c1,c2⟩:=hc;refine ⟨rfl,?_⟩;simp only;unfold Mp at c1 c2 ⊢;rw [Fl] at c1 c2 ⊢;split at c2
   ·rename_i hd;rw [if_pos hd] at c1 ⊢;obtain ⟨d1,_,d3⟩:=hd;have hle:=Jw4 (s:=s) (i:=0) (Nat.zero_le _);obtain ⟨q,k1,k2,k3,k4,k5⟩:=Jz7 s.length s (0+(Ee s 0).2) ([] ++ [(Ee s 0).1]) omg hle sm;have hend:(Fl s s.length (0+(Ee s 0).2) ([] ++ [(Ee s 0).1])).2=s.length:=by omega
    rw [hend,List.drop_length,List.append_nil] at k4;rw [k1] at k3 ⊢;simp only [List.nil_append,List.cons_append,Nat.zero_add] at *
    unfold Ee at d3 k4 k3 ⊢;simp only [List.drop_zero] at d3 k4 k3 ⊢;by_cases hf:(Bw s).2≠0
    ·rw [if_pos hf] at k4 k3 ⊢;obtain ⟨f1,f2,f3,_⟩:=Jzw hf;refine ⟨⟨k3,fun x hx=>?_⟩,?_⟩
     ·rcases List.mem_cons.1 hx with rfl | hx
      ·exact f1
      ·exact k2 x hx
     ·unfold Hy;simp only;rw [if_neg (by rw [f2];simp)];have e:Br ((Bw s).1 :: q)=Bv (Bw s).1 ++ Br q:=rfl;rw [e,← f3,← k4,List.take_append_drop]
    ·rw [if_neg hf,if_pos trivial] at d3 k4 k3 ⊢;split at d3
     ·rename_i hp;rw [if_pos hp] at k4 k3 ⊢;obtain ⟨p1,p2⟩:=hp;obtain ⟨f1,f2,f3,_⟩:=J13 p2;obtain ⟨r,rfl⟩:∃ r,s=46 :: r:=by
       cases s with
       | nil=>simp at p1
       | cons c r=>simp at p1;exact ⟨r,by rw [p1]⟩
      simp only [List.drop_succ_cons,List.drop_zero] at *
      refine ⟨⟨k3,fun x hx=>?_⟩,?_⟩
      ·rcases List.mem_cons.1 hx with rfl | hx
       ·exact f1
       ·exact k2 x hx
      ·unfold Hy;simp only;rw [if_pos f2];have e:Br ((Ce r).1 :: q)=Bv (Ce r).1 ++ Br q:=rfl;rw [e,← f3,← k4,List.take_append_drop]
     ·exact absurd rfl d3
   ·simp at c2
theorem J7r {s:List UInt8} (h:(Je s).2.2≠0):(Je s).2.2=1∧(Je s).1=[]∧(Je s).2.1≤s.length:=by
 unfold Je at h ⊢;by_cases h1:s=[46]
 ·rw [if_pos h1] at h;exact absurd rfl h
 ·rw [if_neg h1] at h ⊢;split at h
  ·rename_i hc;rw [if_pos hc];refine ⟨rfl,rfl,?_⟩;have key:∀ (f i:Nat) (p:List Step),i≤s.length→(Fl s f i p).2≤s.length:=by
    intro f
    induction f with
    | zero=>intro i p hi;exact hi
    | succ f ih =>
     intro i p hi;rw [Fl];split
     ·exact ih _ _ (Jw4 hi)
     ·exact hi
   exact key _ _ _ (Nat.zero_le _)
  ·exact absurd rfl h
def Ih (v:List Node):Bool:=v.all fun n=>decide (n.s.length≤200) && decide (n.name.length≤200)
noncomputable def fewB (v:List Node) (m:Nat):Bool:=decide (v.length≤m) && (Ih v && Jw v)
structure EFit (n:Node):Prop where
 s:n.s.length≤9223372036854775807
 name:n.name.length≤9223372036854775807
 e0:-9223372036854775808≤n.e
 e1:n.e≤9223372036854775807
theorem Jbf {v:List Node} {i:Nat} {n:Node} (h:v[i]? = some n):Ih (v.take (i+1))=(Ih (v.take i) && (decide (n.s.length≤200) && decide (n.name.length≤200))):=by
 unfold Ih;rw [List.take_add_one,h,List.all_append];simp
theorem Y1 {v:List Node} {i:Nat} {n:Node} (h:v[i]? = some n) (hn:¬ (n.s.length≤200∧n.name.length≤200)):Ih v=false:=by
 unfold Ih;rw [List.all_eq_false];exact ⟨n,List.mem_of_getElem? h,by simpa using hn⟩
theorem Ln (v:List Node) (m:Nat) (hm':m≤1000) (hv:v.length≤9223372036854775807) (hf:∀ n∈v,EFit n):Det cx 43 [.p (.sl (valL v)),.p (.int .i64 m)] [] (.p (.bool (fewB v m))) []:=by
 by_cases hl:v.length≤m
 ·have c0:((m:Int)<(v.length:Int))=False:=eq_false omg;(refine bgo Tryz.func43 ?_;simp only [go_sem,simprocAttr,A7,c0]);refine SWP.loop (fun i:Nat=>⟨Ba 34 [(0,.p (.sl (valL v))),(1,.p (.int .i64 m)),(5,.p (.int .i64 i))],[]⟩) (fun i=>i≤v.length∧Ih (v.take i)=true) (fun i=>v.length - i) 0 Jqb ⟨Nat.zero_le _,rfl⟩ ?_;rintro i ⟨h1,h2⟩;by_cases hi:¬ i<v.length
  ·have c1:((i:Int)<(v.length:Int))=False:=eq_false omg;rw [List.take_of_length_le omg] at h2;have hfit:∀ n∈v,NodeFit n:=fun n hn=>by
    have h3:=h2;unfold Ih at h3;have:=List.all_eq_true.1 h3 n hn;simp only [Bool.and_eq_true,decide_eq_true_eq] at this;exact ⟨by omega,by omega,(hf n hn).e0,(hf n hn).e1⟩
   have hg:=c1;have w1:=c1;(refine lws ?_;simp only [go_sem,simprocAttr,A7,c1]);(repeat' (first | ((refine Jqa (Jp v omg hfit) ?_);simp only [go_sem,simprocAttr]) | fail));unfold fewB;rw [decide_eq_true hl,h2];simp
  ·have hi:=Decidable.not_not.1 hi;have c1:((i:Int)<(v.length:Int))=True:=eq_true omg;obtain ⟨n,hn⟩:∃ n,v[i]? = some n:=⟨_,List.getElem?_eq_getElem hi⟩
   have hg:=U5 hn;have w1:=wj1 (i:=i) omg;have hfn:=hf n (List.mem_of_getElem? hn);have hsn:=hfn.s;have hnn:=hfn.name;(refine lws ?_;simp only [go_sem,simprocAttr,A7,c1,hg,w1]);(repeat' (apply iteI <;> intro h))
   all_goals first
    | (
     refine ⟨i+1,⟨by omega,?_⟩,by omega,Jqb⟩;rw [Jbf hn,h2];simp;omega)
    | (
     unfold fewB;rw [Y1 hn omg];simp)
 ·have c0:((m:Int)<(v.length:Int))=True:=eq_true omg;have c1:=c0;have hg:=c0;have w1:=c0;(refine bgo Tryz.func43 ?_;simp only [go_sem,simprocAttr,A7,c0]);unfold fewB;rw [decide_eq_false hl];simp
theorem Jnl {v:List Node} {m:Nat}:fewB v m=true ↔ v.length≤m∧(∀ n∈v,n.s.length≤200∧n.name.length≤200)∧∃ t,okT t∧v=t.enc []:=by
 unfold fewB Ih;rw [Bool.and_eq_true,Bool.and_eq_true,decide_eq_true_eq,Iq,List.all_eq_true];simp only [Bool.and_eq_true,decide_eq_true_eq];rfl
def tOne:Tree:=.mk 2 [] false 0 .nil
def tTwo:Tree:=.mk 5 [] false 0 (.cons [] tOne (.cons [] tOne .nil))
def tObj:Tree:=.mk 6 [] false 0 (.cons [97] tTwo .nil)
def tSet:Tree:=.mk 6 [] false 0 (.cons [97] tOne .nil)
def ndL (k m:Int) (nm:List UInt8):List PV:=[.int .i64 k,.int .i64 m,.str nm,.str [],.bool false,.int .i64 0]
theorem vOne:valL (tOne.enc [])=[ndL 2 0 []]:=by simp [tOne,A6,Bl,valL,Node.cells,ndL,Forest.len]
theorem vSet:valL (tSet.enc [])=[ndL 6 1 [],ndL 2 0 [97]]:=by simp [tSet,tOne,A6,A0,Bl,valL,Node.cells,ndL,Forest.len]
def pA:List Step:=[⟨false,[97],0⟩,⟨true,[],0⟩,⟨false,[98,32,99],0⟩]
structure ValFit (v:List Node):Prop where
 len:v.length≤140737488355328
 node:∀ n∈v,EFit n
theorem Fw {v:List Node} (hv:ValFit v) {m:Nat} (h:fewB v m=true):∃ t,okT t∧v=t.enc []∧(t.enc []).length≤m∧FitT t:=by
 obtain ⟨h1,h2,t,h3,rfl⟩:=Jnl.1 h;exact ⟨t,h3,rfl,h1,fun n hn=>⟨by have:=(h2 n hn).1;omega,by have:=(h2 n hn).2;omega,(hv.node n hn).e0,(hv.node n hn).e1⟩⟩
theorem Joe {p:List Step} {t u:Tree} (ht:okT t) (h:getT p t=.ok u):okT u:=by
 induction p generalizing t with
 | nil=>cases h;exact ht
 | cons x p ih =>
  rw [getT] at h;cases hi:inT t x with
  | error e=>rw [hi] at h;cases h
  | ok w=>rw [hi] at h;exact ih (Ig ht (Jv ht hi)) h
end Go.LX
namespace Go.LX
open Go Go.Proofs Go.RowKit Go.ChangeShapes Go.WideShapes Go.ChangeAt
section
variable {H:Type} {enc:TypeId×Value→H} {P:Program}
theorem Kz (hl:laidOutB P=true) {W W':World} {sp:Nat→Bool}:∀ (ts:List TypeId) (vs:List Value) (ds:List (DataW H)) (ps:List MemPlace),(∀ t∈ts,P.readableRec t=true∧t<P.types.size) →
  DataW.TrodAll enc P W 0 (fun _=>true) true ts vs ds ps→(∀ p∈ps,W.sameAt W' p)→(∀ p∈ps,sp p.block=true)→DataW.TrodAll enc P W' 0 sp true ts vs ds ps
 | [],vs,ds,ps,_,h,_,_=>by
  obtain ⟨rfl,rfl,rfl⟩:=trodAll_nil h;exact trodAll_mk0
 | t :: ts,vs,ds,ps,hr,h,hs,hb=>by
  obtain ⟨v,vs',d,ds',p,q,rfl,rfl,rfl,h0,h1⟩:=trodAll_cons h;have ht:=hr t List.mem_cons_self;exact trodAll_cons_mk (WideElems.Trod_stays hl ht.1 ht.2 h0 (fun x hx=>hs x (List.mem_append_left _ hx)) fun x hx=>hb x (List.mem_append_left _ hx))
   (Kz hl ts vs' ds' q (fun u hu=>hr u (List.mem_cons_of_mem _ hu)) h1 (fun x hx=>hs x (List.mem_append_right _ hx)) fun x hx=>hb x (List.mem_append_right _ hx))
theorem M7 (hl:laidOutB P=true) {f:Func} {s:ChangeSpec} {b:TypeId} {W W':World} {args:Array Value} {ds gs:List (DataW H)} {before:List MemPlace} (hv:s.vars=[])
  (hrd:∀ t∈f.params.toList,P.readableRec t=true∧t<P.types.size) (hrt:f.resultTypes = #[b]) (hb:P.underlying b=some .bool)
  (hW:DataW.Whole enc P f.params.toList s.vars false W args.toList ds gs before) (hfn:s.fn H ds = { results:=[.lit (.bool true)],args:=ds }) (hbel:Below W.heap.size W W') :
  s.post enc P f false true false false W args (.bool true) W':=by
 have hW':=hW;have hlt:∀ p∈before,p.block<W.heap.size:=fun p hp=>hW'.lt p hp
 obtain ⟨p,q,hA,hV,rfl,hfz,hnd⟩:=hW;rw [hv] at hV;obtain ⟨rfl,rfl⟩:=trodVars_none hV;simp only [List.append_nil] at hlt;refine ⟨ds,[],p ++ [],[],p,[],hW',?_,?_,?_,hbel.frame _,fun h=>by cases h⟩
 ·rw [List.append_nil,hfn,hrt];exact trodAll_mk1 (shut_bool hb _)
 ·rw [List.append_nil,hfn];exact Kz hl _ _ _ _ hrd hA (fun x hx=>hbel.same (hlt x hx)) fun x hx=>by simpa using hlt x hx
 ·rw [List.append_nil,hfn,hv];rfl
end
end Go.LX
namespace Go.LX
open Go Go.Proofs Go.RowKit Go.ChangeShapes Go.WideShapes Go.ChangeAt Go.Lib
open Go.Proofs.YtpaiiekgdgjjnaaGreatDoor
theorem Mc {P:Program} {w:World} {x:String×DataW Unit} {l:List (String×DataW Unit)} (h:laidMet P (x :: l) w):laidMet P l w:=by
 obtain ⟨ps,h1,h2,h3⟩:=h;obtain ⟨n,d⟩:=x;obtain ⟨g,t,cs,fuel,p,q,_,_,_,_,h5,rfl⟩:=h1;exact ⟨q,h5,(List.nodup_append.1 h2).2.1,fun b off hb=>h3 b off (List.mem_append_right _ hb)⟩
theorem Jc3 (x:ByteArray):(⟨⟨x.data.toList⟩⟩:ByteArray)=x:=by rcases x with ⟨⟨l⟩⟩;rfl
theorem T8 (s:ByteArray):s.data.toList.length=s.size:=by simp
theorem Jci {P:Program} {w:World} {sp:Nat→Bool} {t:TypeId} {cs:List Value} {nm:String} {d:DataW Unit} {p:List MemPlace} {u:TypeDesc} (ht:P.underlying t=some u) (hu:∃ m,u=.interface m) :
  ∀ {fuel:Nat},DataW.trod (fun _=>()) P w 0 sp false fuel t cs=some (.iface nm d,p)→∃ te pe,cs=[.iface te pe]
 | 0,h=>by simp [DataW.trod] at h
 | fuel+1,h=>by
  obtain ⟨m,rfl⟩:=hu;rcases cs with _ | ⟨c,_ | ⟨c2,cs⟩⟩
  ·simp [DataW.trod,ht] at h
  ·cases c <;> first | exact ⟨_,_,rfl⟩ | (simp [DataW.trod,ht] at h;done)
  ·simp [DataW.trod,ht] at h
theorem Xq {w:World} {n:String} {nm:String} {d:DataW Unit} {g:Nat} {t:TypeId} {u:TypeDesc} (h:VarReads Tryz.prog w n (.iface nm d)) (hg:Tryz.prog.globalNamed n=some g) (ht:(Tryz.prog.globals[g]?).map (·.type)=some t) (hu:Tryz.prog.underlying t=some u) (hi:∃ m,u=.interface m):Jk8 g w:=by
 obtain ⟨g',t',cs,fuel,p,h1,h2,h3,h4⟩:=h;obtain rfl:=Option.some.inj (hg.symm.trans h1);obtain rfl:=Option.some.inj (ht.symm.trans h2);obtain ⟨te,pe,e⟩:=Jci hu hi h4;refine ⟨te,pe,?_⟩;rw [World.var?_cell hg h3 0,← Array.getElem?_toList,e];rfl
theorem gOwn:ownKnob Tryz.prog.godebug=none:=krf
theorem L2:laidOutB Tryz.prog=true:=krf
theorem gFirst:Go.Pinned.utf8First=firstData:=krf
theorem u8T:U8Types Tryz.prog Tryz_lays197_renX:=⟨by kernel_rfl,by kernel_rfl,by kernel_rfl,by kernel_rfl⟩
theorem u8X:U8Extra Tryz.prog Tryz_lays197_renX:=⟨by kernel_rfl,by kernel_rfl,by kernel_rfl,by kernel_rfl,by kernel_rfl,by kernel_rfl,by kernel_rfl⟩
def tz64:List Int:=Lib.deBruijn64tab.map fun n:Nat=>(n:Int)
def Ja (W:World) (b:Nat):Prop:=b<W.heap.size
theorem Kv {W:World} {n:String} {d:DataW Unit} {g:Nat} (h:VarReads Tryz.prog W n d) (hg:Tryz.prog.globalNamed n=some g):g<W.heap.size:=by
 obtain ⟨g',t',cs,fuel,p,h1,_,h3,_⟩:=h;obtain rfl:=Option.some.inj (hg.symm.trans h1);unfold World.var? at h3;rw [hg] at h3;simp only [Option.bind_some] at h3;rcases Nat.lt_or_ge g W.heap.size with h | h
 ·exact h
 ·rw [Array.getElem?_eq_none h] at h3;cases h3
theorem Jdp {W:World} (h:laidMetH Tryz.prog Rows.membTellsRow.laid W):QuoteG W (Ja W):=by
 have h0:laidMet Tryz.prog Rows.membTellsRow.laid W:=h;have h1:=Mc h0;have h2:=Mc h1;have r1:VarReads Tryz.prog W "unicode/utf8.first" Rows.laid_unicode_utf8_first:=laidMet.reads h0 (by simp [Rows.membTellsRow]);have r2:VarReads Tryz.prog W "unicode/utf8.acceptRanges" Rows.laid_unicode_utf8_acceptRanges:=laidMet.reads h0 (by simp [Rows.membTellsRow]);have r3:VarReads Tryz.prog W "strconv.ErrSyntax" Rows.laid_strconv_ErrSyntax:=laidMet.reads h0 (by simp [Rows.membTellsRow]);have r4:VarReads Tryz.prog W "strconv.ErrRange" Rows.laid_strconv_ErrRange:=laidMet.reads h0 (by simp [Rows.membTellsRow]);have r5:VarReads Tryz.prog W "math/bits.deBruijn64tab" Rows.laid_math_bits_deBruijn64tab:=laidMet.reads h0 (by simp [Rows.membTellsRow]);have r6:VarReads Tryz.prog W "internal/strconv.uint64pow10" Rows.laid_internal_strconv_uint64pow10:=laidMet.reads h0 (by simp [Rows.membTellsRow]);refine ⟨?_,?_,?_,?_,?_,Kv r1 krf,Kv r2 krf,Kv r3 krf,Kv r4 krf,Kv r5 krf,Kv r6 krf⟩
 ·have f1:VarReads Tryz.prog W "unicode/utf8.first" firstData:=by
   rw [← gFirst];exact laidMet.reads h0 (by simp [Rows.membTellsRow,Rows.laid_unicode_utf8_first])
  have f2:VarReads Tryz.prog W "unicode/utf8.acceptRanges" acceptData:=laidMet.reads h0 (by
   rw [show (acceptData:DataW Unit)=Rows.laid_unicode_utf8_acceptRanges by kernel_rfl];simp [Rows.membTellsRow])
  exact utf8Tabs_of_readsT u8T u8X f1 f2
 ·exact Xq r3 krf krf Tryz.underlying186 ⟨_,rfl⟩
 ·exact Xq r4 krf krf Tryz.underlying186 ⟨_,rfl⟩
 ·have ht:TabIs Tryz.prog W "math/bits.deBruijn64tab" .u8 tz64:=tabIs_of_head (g:=7) (t:=317) (e:=5) (n:=64) krf krf krf krf krf krf (k:=.u8) (zs:=tz64) h1;intro j hj;have:=ht.cell (g:=7) krf j (by simpa [tz64] using hj);rw [this];simp [tz64,List.getD_eq_getElem?_getD,hj]
 ·exact tabIs_of_head (g:=5) (t:=302) (e:=269) (n:=20) krf krf krf krf krf krf (k:=.u64) (zs:=Lib.pow10Tab) h2
def Yw (d:DataW Unit):List Value:=match d with
 | .agg l=>l.flatMap fun x=>match x with
  | .lit (.int k n)=>[Value.int k n]
  | .agg l'=>l'.flatMap fun y=>match y with
   | .lit (.int k n)=>[Value.int k n]
   | _=>[]
  | _=>[]
 | _=>[]
noncomputable def D9 (os:Os):World :=
 let N:=(World.settled Tryz.prog os).heap.size;let w0:=World.holding Tryz.prog os ⟨#[
  .cells #[.string ⟨#[118,97,108,117,101,32,111,117,116,32,111,102,32,114,97,110,103,101]⟩] 307,.cells #[.string ⟨#[105,110,118,97,108,105,100,32,115,121,110,116,97,120]⟩] 307],#[],[]⟩
 let put (h:Array Obj) (g:Nat) (cs:Array Value):Array Obj:=h.modify g fun
  | .cells _ t frozen=>.cells cs t frozen
  | o=>o
 let h1:=put w0.heap 6 (Yw Rows.laid_math_bits_deBruijn32tab).toArray;let h2:=put h1 7 (Yw Rows.laid_math_bits_deBruijn64tab).toArray;let h3:=put h2 5 (Yw Rows.laid_internal_strconv_uint64pow10).toArray;let h4:=put h3 1 (Yw Rows.laid_unicode_utf8_acceptRanges).toArray;let h5:=put h4 4 #[.iface 305 (.pointer (some ⟨N,0,none⟩))];let h6:=put h5 3 #[.iface 305 (.pointer (some ⟨N+1,0,none⟩))];let h7:=put h6 0 (Yw Rows.laid_unicode_utf8_first).toArray
 { w0 with heap:=h7 }
theorem Ma (os:Os) (args:Array Value):laidMet Tryz.prog Rows.membTellsRow.laid ((D9 os).forCall (fun _ _=>0) ⟨#[],args,[]⟩).memory :=
 laidMet_of_run' 8 krf krf
theorem trod_string {H:Type} {enc:TypeId×Value→H} {P:Program} {w:World} {base:Nat} {sp:Nat→Bool} {held:Bool} {t:TypeId} {s:List UInt8} {d:DataW H} {p:List MemPlace} (ht:P.underlying t=some .string) (h:DataW.Trod enc P w base sp held t (.string ⟨⟨s⟩⟩) d p):d=.lit (.string s):=by
 obtain ⟨fuel,h⟩:=h;cases fuel with
 | zero=>simp [DataW.trod] at h
 | succ f =>
  simp only [DataW.trod,ht,Value.cells] at h;split at h
  ·simp at h;exact h.1.symm
  ·cases h
theorem Jkw {α:Type} {Q:Nat→α→Prop}:∀ n,(∀ i,i<n→∃ x,Q i x)→∃ p:List α,p.length=n∧∀ i x,p[i]? = some x→Q i x
 | 0,_=>⟨[],rfl,fun i x h=>by simp at h⟩
 | n+1,h=>by
  obtain ⟨p,hp,hq⟩:=Jkw n fun i hi=>h i omg
  obtain ⟨x,hx⟩:=h n omg;refine ⟨p ++ [x],by simp [hp],fun i y hy=>?_⟩;rcases Nat.lt_trichotomy i n with hi | hi | hi
  ·rw [List.getElem?_append_left omg] at hy;exact hq i y hy
  ·subst hi;rw [List.getElem?_append_right omg,hp] at hy;simp at hy;subst hy;exact hx
  ·rw [List.getElem?_eq_none (by simp [hp];omega)] at hy;cases hy
theorem J8 {H:Type} {P:Program} {e:TypeId} {d:DataW H} {n:Nat}:∀ {l:List (DataW H)},d∈l→n∈d.weights P e→n∈DataW.weightsAll P e l
 | [],h,_=>by cases h
 | a :: l,h,hn=>by
  simp only [DataW.weightsAll,List.mem_append];rcases List.mem_cons.1 h with rfl | h
  ·exact .inl hn
  ·exact .inr (J8 h hn)
theorem Jka (b off k:Nat):(⟨b,off,none⟩:Addr).add k=⟨b,off+k,none⟩:=by
 unfold Addr.add;split
 ·rename_i h;subst h;rfl
 ·rfl
theorem Xx {α H:Type} {enc:TypeId×Value→H} {P:Program} {w:World} {t e:TypeId} {c:Nat} (vals:α→List Value) (cells:α→List PV) (Good:α→Prop)
  (ht:P.underlying t=some (.slice e)) (hc:P.cellsOf e=c) (hb:0<P.bytesOf e) (hvl:∀ x,(vals x).length=c) (hcl:∀ x,(cells x).length=c) (hsc:∀ x,∀ p∈cells x,p.scalar=true)
  (hrep:∀ (Im:Nat→Prop) x j p,(cells x)[j]? = some p→PRep w Im ((vals x).getD j undef) p)
  (each:∀ (fuel:Nat) (cs:List Value) (y:DataW H×List MemPlace),DataW.trod enc P w 0 (fun _=>true) true fuel e cs=some y→(∀ n∈y.1.weights P e,n≤reachBytes)→∃ x,Good x∧cs=vals x)
  {b:Nat} {v:Value} (hok:Cell.okWide P w .any b t v) {fuel:Nat} {x:DataW H×List MemPlace} (h:DataW.trod enc P w 0 (fun _=>true) true fuel t [v]=some x) (hz:∀ n∈x.1.weights P t,n≤reachBytes) :
  ∃ p:List α,p.length≤140737488355328∧(∀ a∈p,Good a)∧PRep w (Ja w) v (.sl (p.map cells)):=by
 rcases Go.Deep.open_slice ht h with ⟨e1,rfl⟩ | ⟨a,len,cap,m,n,D,Pl,e1,hb0,hl,hm,hmm,rfl,hx⟩
 ·obtain rfl:=(List.cons.inj e1).1;exact ⟨[],by simp,by simp,PRep.slNil⟩
 ·obtain rfl:=(List.cons.inj e1).1;simp only [Cell.okWide,Cell.ok,ht] at hok;obtain ⟨_,_,_,hsp,row,cl,hshape,_⟩:=hok;obtain ⟨blk,off,spot⟩:=a;simp only at hsp;subst hsp;simp only [if_true] at hmm;subst hmm;have hreach:reachBytes≤140737488355328:=by decide
  have hlen:len≤140737488355328:=by
   have h1:=hz ((len+(m - len)) * P.bytesOf e) (by simp [DataW.weights,ht]);have h2:len≤(len+(m - len)) * P.bytesOf e:=by
    have:(len+(m - len)) * 1≤(len+(m - len)) * P.bytesOf e:=Nat.mul_le_mul_left _ hb;omega
   omega
  obtain ⟨p,hp,hq⟩:=Jkw (Q:=fun i x=>Good x∧w.cells? 0 ((⟨blk,off,none⟩:Addr).add (i * c)) c=some (vals x)) len fun i hi=>by
   obtain ⟨cs',h1,h2⟩:=hx i omg;rw [hc] at h1;obtain ⟨x,hg,rfl⟩:=each n cs' _ h2 (fun k hk=>hz k (by
    simp only [DataW.weights,ht,List.mem_cons,List.mem_append];exact .inr (.inl (J8 (List.mem_map.2 ⟨i,List.mem_range.2 hi,rfl⟩) hk))))
   exact ⟨x,hg,h1⟩
  refine ⟨p,by omega,fun a ha=>?_,?_⟩
  ·obtain ⟨i,hi⟩:=List.getElem?_of_mem ha;exact (hq i a hi).1
  ·have hblk:blk<w.heap.size:=by
    rcases Nat.lt_or_ge blk w.heap.size with h | h
    ·exact h
    ·unfold World.shape? at hshape;rw [Array.getElem?_eq_none h] at hshape;cases hshape
   have e2:len=(p.map cells).length:=by simp [hp]
   have key:=PRep.sl (w:=w) (Im:=Ja w) blk off m c (p.map cells) (by rw [← e2];exact hl) hblk (fun i j=>match p[i]? with | some x=>(vals x).getD j undef | none=>undef)
    (fun r hr=>by obtain ⟨x,_,rfl⟩:=List.mem_map.1 hr;exact hcl x)
    (fun r hr=>by obtain ⟨x,_,rfl⟩:=List.mem_map.1 hr;exact hsc x)
    (fun i hi j hj=>by
     rw [← e2] at hi;obtain ⟨x,hx'⟩:∃ x,p[i]? = some x:=⟨_,List.getElem?_eq_getElem omg⟩
     have h1:=(World.cells?_some (hq i x hx').2).2.2 j hj;rw [Go.Deep.add_add,Jka,← Nat.add_assoc] at h1;rw [h1,hx'];have h3:j<(vals x).length:=by rw [hvl];exact hj
     simp [List.getD_eq_getElem?_getD,List.getElem?_eq_getElem h3])
    (fun i r j q hr hq'=>by
     rw [List.getElem?_map] at hr;cases hx':p[i]? with
     | none=>rw [hx'] at hr;cases hr
     | some x =>
      rw [hx'] at hr;obtain rfl:=Option.some.inj hr;exact hrep _ x j q hq')
   rw [← e2] at key;exact key
theorem cBool:Tryz.prog.cellsOf 4=1:=krf
theorem cStr:Tryz.prog.cellsOf 9=1:=krf
theorem cInt:Tryz.prog.cellsOf 3=1:=krf
theorem Kbt:Tryz.prog.cellsOf 29=6:=krf
theorem bNode:0<Tryz.prog.bytesOf 29:=by decide +kernel
def Step.vals (x:Step):List Value:=[.bool x.part,.string ⟨⟨x.name⟩⟩,.int .i64 x.n]
def Node.vals (n:Node):List Value:=[.int .i64 n.kind,.int .i64 n.many,.string ⟨⟨n.name⟩⟩,.string ⟨⟨n.s⟩⟩,.bool n.neg,.int .i64 n.e]
theorem Jly {H:Type} {enc:TypeId×Value→H} {w:World} (fuel:Nat) (cs:List Value) (y:DataW H×List MemPlace) (h:DataW.trod enc Tryz.prog w 0 (fun _=>true) true fuel 29 cs=some y) (_:∀ n∈y.1.weights Tryz.prog 29,n≤reachBytes) :
  ∃ x:Node,EFit x∧cs=x.vals:=by
 obtain ⟨xs,n,_,rfl,hl,hlen,hf⟩:=DataW.trod_struct Tryz.underlying29 h;rw [Kbt] at hl
 match xs,hlen,cs,hl with
 | [y0,y1,y2,y3,y4,y5],_,[a0,a1,a2,a3,a4,a5],_ =>
  have g0:=hf 0 _ rfl;have g1:=hf 1 _ rfl;have g2:=hf 2 _ rfl;have g3:=hf 3 _ rfl;have g4:=hf 4 _ rfl;have g5:=hf 5 _ rfl;simp only [cBool,cStr,cInt,List.drop_zero,List.drop_succ_cons,List.take_succ_cons,List.take_zero,List.getElem?_cons_zero,List.getElem?_cons_succ] at g0 g1 g2 g3 g4 g5;obtain ⟨x0,e0,rfl,_⟩:=DataW.trod_int Tryz.underlying3 g0;obtain ⟨x1,e1,rfl,_⟩:=DataW.trod_int Tryz.underlying3 g1;obtain ⟨x2,e2,rfl,z2⟩:=DataW.trod_string Tryz.underlying9 g2;obtain ⟨x3,e3,rfl,z3⟩:=DataW.trod_string Tryz.underlying9 g3;obtain ⟨x4,e4,rfl⟩:=DataW.trod_bool Tryz.underlying4 g4;obtain ⟨x5,e5,rfl,z5⟩:=DataW.trod_int Tryz.underlying3 g5;cases e0;cases e1;cases e2;cases e3;cases e4;cases e5;have hm:maxLen=9223372036854775807:=by decide
  have k1:IntKind.i64.min = -9223372036854775808:=by decide
  have k2:IntKind.i64.max=9223372036854775807:=by decide
  simp only [Lit.wf,Bool.and_eq_true,decide_eq_true_eq,k1,k2] at z5;have s2:=T8 x2;have s3:=T8 x3;refine ⟨⟨x0,x1,x2.data.toList,x3.data.toList,x4,x5⟩,⟨?_,?_,z5.1,z5.2⟩,?_⟩
  ·show x3.data.toList.length≤_;omega
  ·show x2.data.toList.length≤_;omega
  ·simp only [Node.vals,Jc3]
theorem Ji6 (w:World) (Im:Nat→Prop) (x:Node) (j:Nat) (p:PV) (h:x.cells[j]? = some p):PRep w Im (x.vals.getD j undef) p:=by
 match j,h with
 | 0,h=>cases h;exact PRep.int _ _
 | 1,h=>cases h;exact PRep.int _ _
 | 2,h=>cases h;exact PRep.str _
 | 3,h=>cases h;exact PRep.str _
 | 4,h=>cases h;exact PRep.bool _
 | 5,h=>cases h;exact PRep.int _ _
 | j+6,h=>simp [Node.cells] at h
theorem Vt {H:Type} {enc:TypeId×Value→H} {w:World} {b:Nat} {v:Value} (hok:Cell.okWide Tryz.prog w .any b 25 v) {fuel:Nat} {x:DataW H×List MemPlace} (h:DataW.trod enc Tryz.prog w 0 (fun _=>true) true fuel 25 [v]=some x) (hz:∀ n∈x.1.weights Tryz.prog 25,n≤reachBytes) :
  ∃ p:List Node,ValFit p∧PRep w (Ja w) v (.sl (valL p)):=by
 obtain ⟨p,h1,h2,h3⟩:=Xx Node.vals Node.cells EFit Tryz.underlying25 Kbt bNode (fun _=>rfl) (fun _=>rfl) (fun x p hp=>by simp [Node.cells] at hp;rcases hp with rfl | rfl | rfl | rfl | rfl | rfl <;> rfl) (Ji6 w) Jly hok h hz;exact ⟨p,⟨h1,h2⟩,h3⟩
theorem Jkh {P:Program} {W:World} {r:Reach} {b:Nat} {t e:TypeId} {v:Value} (ht:P.underlying t=some (.slice e)) (h:Cell.okWide P W r b t v):v.cells.toList=[v]:=by
 simp only [Cell.okWide,Cell.ok,ht] at h;cases v <;> first | rfl | (simp at h;done)
theorem J0 {H:Type} {P:Program} {ts:List TypeId} {ds:List (DataW H)} (hz:(DataW.weightsEach P ts ds).all (· ≤ reachBytes)=true) {j:Nat} {t:TypeId} {d:DataW H} (h1:ts[j]? = some t) (h2:ds[j]? = some d):∀ n∈d.weights P t,n≤reachBytes:=fun n hn=>by
 simpa using List.all_eq_true.1 hz n (DataW.weights_mem_each h1 h2 n hn)
theorem N3 {H:Type} {enc:TypeId×Value→H} {w:World} {b:Nat} {v:Value} {d:DataW H} {q:List MemPlace} {ts:List TypeId} {ds:List (DataW H)} (hok:Value.okWide Tryz.prog w .any b 25 v) (h:DataW.Trod enc Tryz.prog w 0 (fun _=>true) true 25 v d q)
  (hz:(DataW.weightsEach Tryz.prog ts ds).all (· ≤ reachBytes)=true) {j:Nat} (h1:ts[j]? = some 25) (h2:ds[j]? = some d):∃ p:List Node,ValFit p∧PRep w (Ja w) v (.sl (valL p)):=by
 simp only [Value.okWide,Tryz.underlying25] at hok;obtain ⟨fuel,h⟩:=h;rw [Jkh Tryz.underlying25 hok] at h;exact Vt hok h (J0 hz h1 h2)
theorem Jo3:Tryz.prog.cellsOf 51=1:=krf
theorem J1k {P:Program} (h:P.funcs.any Func.goes=false) (f:FuncId):P.goes f=false:=by
 unfold Program.goes;rw [h,Bool.and_false,Bool.or_false,List.any_eq_false];intro g _ hg;cases hf:P.funcs[g]? with
 | none=>rw [hf] at hg;cases hg
 | some fn =>
  rw [hf] at hg;rw [Array.any_eq_false] at h;obtain ⟨i,rfl⟩:=Array.getElem?_eq_some_iff.1 hf;exact h g i hg
theorem goesBy_none {P:Program} (h:P.funcs.any Func.goes=false) (c:OpenClaim):false=c.goesBy P:=by
 unfold OpenClaim.goesBy Program.goesAt Program.goesFrom;have h1:(P.funcNamed c.func).any P.goes=false:=by
  cases P.funcNamed c.func with
  | none=>rfl
  | some f=>exact J1k h f
 rw [h1,Bool.false_or];split
 ·rfl
 ·symm;rw [List.any_eq_false];intro g _ hg;rw [J1k h g] at hg;cases hg
theorem noGoes:Tryz.pinned.checked.prog.funcs.any Func.goes=false:=krf
end Go.LX
namespace Go.LX
open Go
structure YRow where
 kind:Int
 many:Int
 name:List UInt8
 s:List UInt8
 n:Int
 c:Node
def YRow.cells (r:YRow):List PV:=[.int .i64 r.kind,.int .i64 r.many,.str r.name,.str r.s,.int .i64 r.n,.int .i64 r.c.kind,.int .i64 r.c.many,.str r.c.name,.str r.c.s,.bool r.c.neg,.int .i64 r.c.e]
def rowL (v:List YRow):List (List PV):=v.map YRow.cells
mutual
inductive RT where
 | mk (kind:Int) (s:List UInt8) (n:Int) (c:Node) (kids:RF)
inductive RF where
 | nil
 | cons (name:List UInt8) (t:RT) (rest:RF)
end
def RF.len:RF→Nat
 | .nil=>0
 | .cons _ _ r=>r.len+1
mutual
def RT.enc (name:List UInt8):RT→List YRow
 | .mk k s n c kids=>⟨k,kids.len,name,s,n,c⟩ :: kids.enc
def RF.enc:RF→List YRow
 | .nil=>[]
 | .cons nm t r=>t.enc nm ++ r.enc
end
def RF.app:RF→RF→RF
 | .nil,g=>g
 | .cons nm t r,g=>.cons nm t (r.app g)
theorem Jsb:∀ f g:RF,(f.app g).len=f.len+g.len
 | .nil,g=>by simp [RF.app,RF.len]
 | .cons nm t r,g=>by simp only [RF.app,RF.len,Jsb r g];omega
theorem Jqr:∀ f g:RF,(f.app g).enc=f.enc ++ g.enc
 | .nil,g=>by simp [RF.app,RF.enc]
 | .cons nm t r,g=>by simp only [RF.app,RF.enc,Jqr r g,List.append_assoc]
theorem Jqo {name:List UInt8} {k:Int} {s:List UInt8} {n:Int} {c:Node} {kids:RF}:(RT.mk k s n c kids).enc name=⟨k,kids.len,name,s,n,c⟩ :: kids.enc:=by rw [RT.enc]
theorem Jqg {nm:List UInt8} {t:RT} {r:RF}:(RF.cons nm t r).enc=t.enc nm ++ r.enc:=by rw [RF.enc]
theorem Jq2:RF.nil.enc=[]:=by rw [RF.enc]
theorem Jso (t:RT) (nm:List UInt8):1≤(t.enc nm).length:=by
 cases t;rw [Jqo];simp
theorem Jq3:∀ f:RF,f.len≤f.enc.length
 | .nil=>by simp [RF.len]
 | .cons nm t r=>by
  have:=Jso t nm;have:=Jq3 r;rw [Jqg,List.length_append,RF.len];omega
@[simp] theorem Jqi (v:List YRow):(rowL v).length=v.length:=by simp [rowL]
theorem Jua (n:YRow) (v:List YRow):rowL (n :: v)=n.cells :: rowL v:=rfl
theorem J34 (a b:List YRow):rowL (a ++ b)=rowL a ++ rowL b:=by simp [rowL]
theorem Jq9 {k m:Int} {nm s:List UInt8} {n:Int} {c:Node}:YRow.cells ⟨k,m,nm,s,n,c⟩=[.int .i64 k,.int .i64 m,.str nm,.str s,.int .i64 n,.int .i64 c.kind,.int .i64 c.many,.str c.name,.str c.s,.bool c.neg,.int .i64 c.e]:=rfl
theorem Jun (v:List YRow):∀ q∈rowL v,q.length=11:=by
 intro q hq;obtain ⟨n,_,rfl⟩:=List.mem_map.1 hq;rfl
theorem J1r {v:List YRow} {i:Nat} {a b:List YRow} (h:v.drop i=a ++ b):((rowL v).drop i).take a.length=rowL a:=by
 have:(rowL v).drop i=rowL a ++ rowL b:=by rw [← J34,← h];simp [rowL,List.map_drop]
 rw [this];simp
theorem Jsa {v:List YRow} {i:Nat} {n:YRow} {b:List YRow} (h:v.drop i=n :: b):(rowL v)[i]? = some n.cells:=by
 have:v[i]? = some n:=by
  have:=congrArg (·[0]?) h;simpa using this
 simp [rowL,this]
theorem rowL_at {v:List YRow} {i:Nat} {n:YRow} (h:v[i]? = some n):(rowL v)[i]? = some n.cells:=by simp [rowL,h]
theorem Jvf {v:List YRow} {i:Nat} {a:List YRow} (h:v.drop i=a) (ha:a≠[]):i+a.length=v.length:=by
 have:=congrArg List.length h;simp at this;have:1≤a.length:=by cases a <;> simp_all
 omega
def RF.list:RF→List (List UInt8×RT)
 | .nil=>[]
 | .cons nm t r=>(nm,t) :: r.list
theorem Jrc:∀ f:RF,f.list.length=f.len
 | .nil=>rfl
 | .cons _ _ r=>by simp [RF.list,RF.len,Jrc r]
def RT.kids:RT→RF
 | .mk _ _ _ _ k=>k
def RT.kind:RT→Int
 | .mk k _ _ _ _=>k
def RT.s:RT→List UInt8
 | .mk _ s _ _ _=>s
def RT.n:RT→Int
 | .mk _ _ n _ _=>n
def RT.c:RT→Node
 | .mk _ _ _ c _=>c
abbrev RKT:=List UInt8×RT
theorem Jr3 {nm:List UInt8} {t:RT} {r:RF}:(RF.cons nm t r).len=r.len+1:=rfl
theorem J6v (t:RT) (nm:List UInt8):(t.enc nm).length=(t.enc []).length:=by
 cases t;rw [Jqo,Jqo];rfl
def rnxt (L:Nat):List YRow→Nat→Option Nat
 | _,0=>some 0
 | [],_+1=>none
 | n :: r,o+1=>if n.many<0∨(L:Int)<n.many then none else (rnxt L r (o+n.many.toNat)).map (· + 1)
theorem J19:∀ (m:Nat) (F:RF),m≤F.len→∃ A B:RF,F=A.app B∧A.len=m
 | 0,F,_=>⟨.nil,F,rfl,rfl⟩
 | m+1,.nil,h=>by simp [RF.len] at h
 | m+1,.cons nm t r,h=>by
  obtain ⟨A,B,h1,h2⟩:=J19 m r (by simp only [RF.len] at h;omega);exact ⟨.cons nm t A,B,by rw [RF.app,← h1],by simp only [RF.len,h2]⟩
theorem Jyd {L:Nat}:∀ {v:List YRow} {o k:Nat},rnxt L v o=some k→∃ F:RF,F.len=o∧v=F.enc ++ v.drop k∧F.enc.length=k
 | v,0,k,h=>by
  simp [rnxt] at h;subst h;exact ⟨.nil,rfl,by simp [Jq2],by simp [Jq2]⟩
 | [],o+1,k,h=>by simp [rnxt] at h
 | n :: r,o+1,k,h=>by
  simp only [rnxt] at h;split at h
  ·cases h
  ·rename_i hn;obtain ⟨k',h',rfl⟩:=Option.map_eq_some_iff.1 h;obtain ⟨F,h1,h2,h3⟩:=Jyd h';obtain ⟨A,B,rfl,hA⟩:=J19 n.many.toNat F omg;rw [Jsb] at h1;rw [Jqr] at h2 h3;refine ⟨.cons n.name (.mk n.kind n.s n.n n.c A) B,by simp only [RF.len];omega,?_,?_⟩
   ·rw [Jqg,Jqo,List.drop_succ_cons];have e:(⟨n.kind,A.len,n.name,n.s,n.n,n.c⟩:YRow)=n:=by
     have:(A.len:Int)=n.many:=by omega
     rw [this]
    rw [e];simp only [List.cons_append,List.append_assoc];congr 1;rw [← List.append_assoc];exact h2
   ·rw [Jqg,Jqo,List.length_append,List.length_cons];rw [List.length_append] at h3;omega
theorem J9s {L:Nat}:∀ (n:Nat) (F:RF) (r:List YRow),F.enc.length≤n→F.enc.length≤L→rnxt L (F.enc ++ r) F.len=some F.enc.length
 | _,.nil,r,_,_=>by simp [RF.len,rnxt,Jq2]
 | 0,.cons nm t rest,r,h,_=>by
  have:=Jso t nm;rw [Jqg,List.length_append] at h;omega
 | n+1,.cons nm (.mk k s g e kids) rest,r,h,hL=>by
  rw [Jqg,Jqo,List.length_append,List.length_cons] at h hL;have hk:=Jq3 kids;have ih:=J9s (L:=L) n (kids.app rest) r (by rw [Jqr,List.length_append];omega) (by rw [Jqr,List.length_append];omega);rw [Jqr,Jsb,List.append_assoc,List.length_append] at ih;simp only [Jqg,Jqo,List.cons_append,List.append_assoc,RF.len,rnxt];rw [if_neg omg];simp only [Int.toNat_natCast];rw [Nat.add_comm rest.len,ih];simp only [Option.map_some,List.length_cons,List.length_append]
theorem J4g {v:List YRow}:rnxt v.length v 1=some v.length ↔ ∃ nm t,v=RT.enc nm t:=by
 constructor
 ·intro h;obtain ⟨F,h1,h2,h3⟩:=Jyd h;rw [List.drop_length,List.append_nil] at h2
  match F,h1,h2 with
  | .cons nm t .nil,_,h2=>exact ⟨nm,t,by rw [h2,Jqg,Jq2,List.append_nil]⟩
 ·rintro ⟨nm,t,rfl⟩;have:=J9s (L:=(t.enc nm).length) (t.enc nm).length (.cons nm t .nil) [] (by rw [Jqg,Jq2];simp) (by rw [Jqg,Jq2];simp);simpa [Jqg,Jq2,RF.len] using this
def Jsw (v:List YRow) (i o:Nat):Int:=match rnxt v.length (v.drop i) o with
 | some k=>((i+k:Nat):Int)
 | none=>-1
theorem J5z (v:List YRow) (i:Nat):Jsw v i 0=i:=by
 unfold Jsw;have:rnxt v.length (v.drop i) 0=some 0:=by cases v.drop i <;> rfl
 rw [this];rfl
theorem J8e {v:List YRow} {i o:Nat} (h:v.length≤i) (ho:0<o):Jsw v i o = -1:=by
 unfold Jsw;rw [List.drop_eq_nil_of_le h];cases o with
 | zero=>omega
 | succ o=>rfl
theorem J7w {v:List YRow} {i o:Nat} {n:YRow} (h:v[i]? = some n) (ho:0<o) (hb:n.many<0∨(v.length:Int)<n.many):Jsw v i o = -1:=by
 have hi:=(List.getElem?_eq_some_iff.1 h).1;unfold Jsw;rw [List.drop_eq_getElem_cons hi,(List.getElem?_eq_some_iff.1 h).2];cases o with
 | zero=>omega
 | succ o=>simp only [rnxt];rw [if_pos hb]
theorem J6d {v:List YRow} {i o:Nat} {n:YRow} (h:v[i]? = some n) (hb:¬ (n.many<0∨(v.length:Int)<n.many)):Jsw v i (o+1)=Jsw v (i+1) (o+n.many.toNat):=by
 have hi:=(List.getElem?_eq_some_iff.1 h).1;unfold Jsw;rw [List.drop_eq_getElem_cons hi,(List.getElem?_eq_some_iff.1 h).2];simp only [rnxt];rw [if_neg hb];cases rnxt v.length (v.drop (i+1)) (o+n.many.toNat) with
 | none=>rfl
 | some k=>simp only [Option.map_some];omega
theorem Jue {v:List YRow} {i:Nat} {n:YRow} (h:v[i]? = some n):(rowL v)[i]? = some [.int .i64 n.kind,.int .i64 n.many,.str n.name,.str n.s,.int .i64 n.n,.int .i64 n.c.kind,.int .i64 n.c.many,.str n.c.name,.str n.c.s,.bool n.c.neg,.int .i64 n.c.e]:=by
 simp [rowL,h,YRow.cells]
theorem J0x:∀ {a b c d:RF},a.app b=c.app d→a.len=c.len→a=c∧b=d
 | .nil,b,.nil,d,h,_=>⟨rfl,h⟩
 | .nil,_,.cons _ _ _,_,_,h=>by simp [RF.len] at h
 | .cons _ _ _,_,.nil,_,_,h=>by simp [RF.len] at h
 | .cons nm t a,b,.cons nm' t' c,d,h,hl=>by
  rw [RF.app,RF.app] at h;injection h with h1 h2 h3
  obtain ⟨rfl,rfl⟩:=J0x (a:=a) (b:=b) (c:=c) (d:=d) h3 (by simpa [RF.len] using hl);exact ⟨by rw [h1,h2],rfl⟩
theorem Kbr:∀ (n:Nat) {F G:RF},F.enc.length≤n→F.len=G.len→F.enc=G.enc→F=G
 | _,.nil,.nil,_,_,_=>rfl
 | _,.nil,.cons _ _ _,_,h,_=>by simp [RF.len] at h
 | _,.cons _ _ _,.nil,_,h,_=>by simp [RF.len] at h
 | 0,.cons nm t r,.cons _ _ _,h,_,_=>by
  have:=Jso t nm;rw [Jqg,List.length_append] at h;omega
 | n+1,.cons nm (.mk k s g e kids) r,.cons nm' (.mk k' s' g' e' kids') r',h,hl,he=>by
  rw [Jqg,Jqo,List.length_append,List.length_cons] at h;rw [Jqg,Jqg,Jqo,Jqo,List.cons_append,List.cons_append] at he;injection he with h1 h2
  injection h1 with g1 g2 g3 g4 g5 g6
  rw [← Jqr,← Jqr] at h2;simp only [RF.len] at hl;have hk:kids.len=kids'.len:=by omega
  have:=Kbr n (F:=kids.app r) (G:=kids'.app r') (by rw [Jqr,List.length_append];omega) (by rw [Jsb,Jsb];omega) h2;obtain ⟨rfl,rfl⟩:=J0x this hk;rw [g1,g3,g4,g5,g6]
theorem rt_inj {t u:RT} {a b:List UInt8} (h:t.enc a=u.enc b):a=b∧t=u:=by
 have:=Kbr (RF.cons a t .nil).enc.length (F:=.cons a t .nil) (G:=.cons b u .nil) (Nat.le_refl _) rfl (by rw [Jqg,Jqg,h]);injection this with h1 h2 _
 exact ⟨h1,h2⟩
theorem J6w {v:List YRow} (h:Jsw v 0 1=v.length):∃ nm t,v=RT.enc nm t:=by
 refine J4g.1 ?_;unfold Jsw at h;rw [List.drop_zero] at h;cases hn:rnxt v.length v 1 with
 | none=>rw [hn] at h;simp at h
 | some k=>rw [hn] at h;simp at h;rw [show k=v.length by omega]
def Jrp:Node:=⟨0,0,[],[],false,0⟩
def Jrb (c:Node):Prop:=c.kind<5∧c.name=[]∧G3 c.kind c.s c.neg c.e c.many
instance (c:Node):Decidable (Jrb c):=by unfold Jrb;infer_instance
def Jrn (n:Int) (c:Node):Prop:=0≤n∧n≤5∧Jrb c
instance (n:Int) (c:Node):Decidable (Jrn n c):=by unfold Jrn;infer_instance
def fldS (s:List UInt8):Prop:=(Je s).2.2=0∧∀ x∈(Je s).1,x.part=false
instance (s:List UInt8):Decidable (fldS s):=by unfold fldS;infer_instance
def Jri (k:Int) (s:List UInt8) (n:Int) (c:Node) (m:Int):Prop :=
 if k=0 then m=0∧s=[]∧n=0∧c=Jrp
 else if k=1 then 0≤m∧1≤n∧n≤31∧s=[]∧c=Jrp
 else if k=9 then m=0∧s=[]∧Jrn n c
 else if k=2 then 0≤m∧(n=0∨n=1)∧s=[]∧c=Jrp
 else if k=4 then 0≤m∧n=0∧s=[]∧c=Jrp
 else if k=3∨k=5∨k=6 then m=1∧n=0∧s=[]∧c=Jrp
 else if k=7∨k=8 then m=1∧n=0∧c=Jrp∧fldS s
 else False
instance (k:Int) (s:List UInt8) (n:Int) (c:Node) (m:Int):Decidable (Jri k s n c m):=by unfold Jri;infer_instance
def RRise (l:List RKT):Prop:=l.Pairwise fun p q=>Op.bytesLess p.1 q.1=true
def Jx0 (k:Int) (p:RKT):Prop:=(p.2.kind=9 ↔ k=1)∧(k≠2→p.1=[])∧(k=2→valid p.1=true)
def Jr1 (k:Int) (l:List RKT):Prop:=(∀ p∈l,Jx0 k p)∧(k=2→RRise l)
def Jxb (name:List UInt8):List RKT→Option RT
 | []=>none
 | p :: l=>if p.1=name then some p.2 else Jxb name l
def Jvy:RT→List Step→Option RT
 | t,[]=>some t
 | t,x :: p=>if t.kind=2∧x.part=false then (Jxb x.name t.kids.list).bind fun u=>Jvy u p else none
theorem Jxz (t:RT):Jvy t []=some t:=by cases t;rfl
theorem Jzi {t:RT} {x:Step} {p:List Step}:Jvy t (x :: p)=if t.kind=2∧x.part=false then (Jxb x.name t.kids.list).bind fun u=>Jvy u p else none:=by rw [Jvy]
def Jsn (t:RT) (p:List Step):Prop:=∃ u,Jvy t p=some u∧u.kind=1
def Jwp (k:Int) (s:List UInt8) (l:List RKT):Prop:=(k=7∨k=8)→∀ p,l.head? = some p→Jsn p.2 (Je s).1
mutual
def okR:RT→Prop
 | .mk k s n c kids=>Jri k s n c kids.len∧Jr1 k kids.list∧Jwp k s kids.list∧okRF kids
def okRF:RF→Prop
 | .nil=>True
 | .cons _ t r=>okR t∧okRF r
end
theorem Jt9 {k:Int} {s:List UInt8} {n:Int} {c:Node} {kids:RF}:okR (.mk k s n c kids) ↔ Jri k s n c kids.len∧Jr1 k kids.list∧Jwp k s kids.list∧okRF kids:=by rw [okR]
theorem Jsp {nm:List UInt8} {t:RT} {r:RF}:okRF (.cons nm t r) ↔ okR t∧okRF r:=by rw [okRF]
theorem Jtb:okRF .nil:=by rw [okRF];trivial
theorem Jy6:∀ {a b:RF},okRF (a.app b) ↔ okRF a∧okRF b
 | .nil,b=>by simp [RF.app,Jtb]
 | .cons nm t r,b=>by rw [RF.app,Jsp,Jsp,Jy6 (a:=r)];exact and_assoc.symm
theorem J2i {nm:List UInt8} {k:Int} {s:List UInt8} {n:Int} {c:Node} {kids r:RF}:okRF (.cons nm (.mk k s n c kids) r) ↔ Jri k s n c kids.len∧Jr1 k kids.list∧Jwp k s kids.list∧okRF (kids.app r):=by
 rw [Jsp,Jt9,Jy6];constructor
 ·rintro ⟨⟨h1,h2,h3,h4⟩,h5⟩;exact ⟨h1,h2,h3,h4,h5⟩
 ·rintro ⟨h1,h2,h3,h4,h5⟩;exact ⟨⟨h1,h2,h3,h4⟩,h5⟩
theorem Jug:∀ {f:RF},okRF f ↔ ∀ p∈f.list,okR p.2
 | .nil=>by simp [RF.list,Jtb]
 | .cons nm t r=>by rw [Jsp,Jug (f:=r),RF.list,List.forall_mem_cons]
theorem Ju3 (k:Int):Jr1 k []:=⟨by simp,fun _=>.nil⟩
theorem J3h {k:Int} {p:RKT} {l:List RKT}:Jr1 k (p :: l) ↔ Jx0 k p∧(k=2→∀ q,l.head? = some q→Op.bytesLess p.1 q.1=true)∧Jr1 k l:=by
 unfold Jr1;constructor
 ·rintro ⟨h1,h2⟩;exact ⟨h1 p List.mem_cons_self,fun hk q hq=>(List.pairwise_cons.1 (h2 hk)).1 q (List.mem_of_head? hq),fun q hq=>h1 q (List.mem_cons_of_mem _ hq),fun hk=>(List.pairwise_cons.1 (h2 hk)).2⟩
 ·rintro ⟨h1,h2,h3,h4⟩;refine ⟨fun q hq=>?_,fun hk=>List.pairwise_cons.2 ⟨fun q hq=>?_,h4 hk⟩⟩
  ·rcases List.mem_cons.1 hq with rfl | hq
   ·exact h1
   ·exact h3 q hq
  ·cases l with
   | nil=>cases hq
   | cons r l =>
    have h7:=h2 hk r rfl;rcases List.mem_cons.1 hq with rfl | hq
    ·exact h7
    ·exact H8 h7 ((List.pairwise_cons.1 (h4 hk)).1 q hq)
def J0p (v:List YRow):Prop:=∃ t,okR t∧t.kind≠9∧v=t.enc []
open Classical in
noncomputable def Jtk (v:List YRow):Bool:=decide (J0p v)
theorem Jt4 {v:List YRow}:Jtk v=true ↔ J0p v:=by unfold Jtk;exact @decide_eq_true_iff _ (Classical.propDecidable _)
theorem Js8 {v:List YRow} (h:¬ J0p v):false=Jtk v:=by
 cases hb:Jtk v with
 | false=>rfl
 | true=>exact absurd (Jt4.1 hb) h
theorem J5n {t:RT}:J0p (t.enc []) ↔ okR t∧t.kind≠9:=by
 constructor
 ·rintro ⟨u,hu,hk,h⟩;obtain ⟨_,rfl⟩:=rt_inj h;exact ⟨hu,hk⟩
 ·exact fun h=>⟨t,h.1,h.2,rfl⟩
theorem J3n {v:List YRow} (h:J0p v):Jsw v 0 1=v.length:=by
 obtain ⟨t,_,_,rfl⟩:=h;have:=J4g.2 ⟨[],t,rfl⟩;unfold Jsw;rw [List.drop_zero,this];simp
end Go.LX
