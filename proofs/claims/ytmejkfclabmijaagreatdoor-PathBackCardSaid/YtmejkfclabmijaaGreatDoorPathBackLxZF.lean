/- The laws on paths: PathTexts, PathBack. -/
import Derived.Test.YtmejkfclabmijaaGreatDoorPathBackLxZE
import Derived.Test.YtmejkfclabmijaaGreatDoorPathBackLxE
import Derived.OpenShut
import Derived.WideKeyArgs
import Derived.Below
import Derived.ProofKit
import Derived.WalkKit
import Derived.ChangeSame
import Derived.Test.YtmejkfclabmijaaGreatDoorCards
import Derived.Test.YtmejkfclabmijaaGreatDoorTie
import Derived.Deep.DeepHandedRow
import Derived.Deep.DeepWitnessRowRef
import Derived.Deep.Slices
import Derived.Lib.LaidIn
import Derived.Lib.LaidU8T
import Derived.Lib.LaidTab
import Derived.SizedLaws
set_option linter.unusedSimpArgs false
set_option linter.unusedVariables false
set_option linter.unusedSectionVars false
set_option linter.unnecessarySimpa false
set_option maxRecDepth 100000
set_option maxHeartbeats 2000000
namespace Go.LX
open Go Go.RowKit Go.Proofs
attribute [local irreducible] Bz SWP Gm
structure PathFit (p:List Step):Prop where
 len:p.length≤140737488355328
 name:∀ x∈p,x.name.length≤140737488355328
theorem Jka {s:List UInt8} (h:valid s=true):s.length+2≤(refQ s).length:=by
 have:=Jo1 h []
 rw [List.append_nil] at this
 exact (Jik this).2.1
theorem Jl6 {x:Step} (h:Fs x):x.name.length≤(Hs x).length:=by
 unfold Fs at h
 unfold Hs
 cases hp:x.part with
 | true =>
  rw [if_pos hp] at h
  rw [h.1];simp
 | false =>
  rw [if_neg (by simp [hp])] at h
  rw [if_neg (by simp)]
  split
  ·simp
  ·have:=Jka h.2
   simp;omega
theorem Jlp {p:List Step} (h:∀ x∈p,Fs x):∀ x∈p,x.name.length≤(Hh p).length:=by
 induction p with
 | nil=>simp
 | cons y p ih =>
  intro x hx
  have e:Hh (y :: p)=Hs y ++ Hh p:=rfl
  rw [e,List.length_append]
  rcases List.mem_cons.1 hx with rfl | hx
  ·have:=Jl6 (h x List.mem_cons_self);omega
  ·have:=ih (fun z hz=>h z (List.mem_cons_of_mem _ hz)) x hx;omega
theorem Jl9 (p:List Step):(Hh p).length≤(Rt p).length:=by
 unfold Rt
 cases p with
 | nil=>simp [Hh]
 | cons x p=>simp only;split <;> simp
theorem read_fit (s:List UInt8):(Ks s).1.length≤20∧∀ x∈(Ks s).1,x.name.length≤s.length:=by
 by_cases h:(Ks s).2.2=0
 ·obtain ⟨_,h2,h3⟩:=Jfw h
  refine ⟨h2.1,fun x hx=>?_⟩
  have h4:=Jlp h2.2 x hx
  have h5:=Jl9 (Ks s).1
  rw [h3] at h5;omega
 ·have:=Jgj h
  rw [this.2.1];simp
theorem Jla (p:List Step) (s:List UInt8) (hp:PathFit p) (hs:s.length≤9223372036854775807):Det cx 5 [.p (.sl (Gp p)),.p (.str s)] [] (.p (.bool true)) []:=by
 have hF:=d_few p hp.len hp.name
 by_cases hf:fewP p
 ·rw [decide_eq_true hf] at hF
  obtain ⟨hl,hn⟩:=hf
  have hPq:=Jdh p (by omega) (fun x hx=>by have:=hn x hx;omega)
  by_cases hok:Vd p
  ·rw [decide_eq_true hok] at hPq
   by_cases h300:s.length≤300
   ·have c0:((300:Int)<(s.length:Int))=False:=eq_false (by omega)
    have hT:=Jlr p (by omega) hok.2 (fun x hx=>by have:=hn x hx;omega)
    have hTl:(Rt p).length≤1000000:=by
     have h1:=Jc7 hok.2 (fun x hx=>by have:=hn x hx;omega)
     unfold Rt
     cases p with
     | nil=>simp
     | cons x q=>simp only;simp only [List.length_cons] at hl h1;split <;> simp <;> omega
    have hR1:=Jht (Rt p) hTl
    rw [Je0 hok] at hR1
    have hSm:=Jmv p p (by omega) (by omega) (fun x hx=>by have:=hn x hx;omega) (fun x hx=>by have:=hn x hx;omega)
    rw [decide_eq_true rfl] at hSm
    have hR2:=Jht s (by omega)
    obtain ⟨r1,r2⟩:=read_fit s
    by_cases h0:(Ks s).2.2=0
    ·obtain ⟨t1,t2,t3⟩:=Jfw h0
     have hP2:=Jdh (Ks s).1 (by omega) (fun x hx=>by have:=r2 x hx;omega)
     rw [decide_eq_true t2] at hP2
     have hT2:=Jlr (Ks s).1 (by omega) t2.2 (fun x hx=>by have:=r2 x hx;omega)
     rw [t3] at hT2
     rw [h0,t1] at hR2
     have c1:=c0
     have c2:=c0
     have c3:=c0
     skip
     (refine Bz.of_code (X:=cx) false [] (by simp) Tryz.func5 (by kernel_rfl) rfl (by simp only [List.length_cons,List.length_nil,Tryz.ntmps5];decide) (by simp) ?_;refine Ax hm _ _ _ ?_;simp only [Tryz.ntmps5,Tryz.results5,Ah,Bn,Ab,Bd,A0,Bb,Be,Az,Ce,C0,Ba,Ai,Cc,Ag,Ae,A3,Cd,Bv,Bm,Bx,Bw,A5,B3,Bi,Ay,A4,Cj,Ad,Ac,argW,List.map_cons,List.map_nil,List.append_nil,List.flatMap_cons,List.flatMap_nil,Nat.reduceLT,Nat.reduceEqDiff,Ca,Bu,↓reduceIte,reduceCtorEq,Nat.zero_add])
     (repeat' (first | (refine iteI (fun h=>?_) (fun h=>?_))|(refine B2 (by first | omega | (simp (disch:=omega) only [Aa,Ak,Aj] at *;omega)) ?_;intro b hb)|(refine And.intro (by first | omega | (simp (disch:=omega) only [Aa,Ak,Aj] at *;omega)) ?_)|((first | (refine A9 hm (by rfl) (by kernel_rfl) ?_)|(refine Det.use (hF) ?_)|(refine Det.useQ (hF) ?_)|(refine Ec.use (hF) ?_)|(refine C7.use (hF) ?_)|(refine Det.use (Nt) ?_)|(refine Det.useQ (Nt) ?_)|(refine Det.use (hPq) ?_)|(refine Det.useQ (hPq) ?_)|(refine Ec.use (hPq) ?_)|(refine C7.use (hPq) ?_)|(refine Det.use (hT) ?_)|(refine Det.useQ (hT) ?_)|(refine Ec.use (hT) ?_)|(refine C7.use (hT) ?_)|(refine Det.use (hR1) ?_)|(refine Det.useQ (hR1) ?_)|(refine Ec.use (hR1) ?_)|(refine C7.use (hR1) ?_)|(refine Det.use (hSm) ?_)|(refine Det.useQ (hSm) ?_)|(refine Ec.use (hSm) ?_)|(refine C7.use (hSm) ?_)|(refine Det.use (hR2) ?_)|(refine Det.useQ (hR2) ?_)|(refine Ec.use (hR2) ?_)|(refine C7.use (hR2) ?_)|(refine Det.use (hP2) ?_)|(refine Det.useQ (hP2) ?_)|(refine Ec.use (hP2) ?_)|(refine C7.use (hP2) ?_)|(refine Det.use (hT2) ?_)|(refine Det.useQ (hT2) ?_)|(refine Ec.use (hT2) ?_)|(refine C7.use (hT2) ?_));simp only [Ch,Ah,Bn,Bs,Cn,Ab,Cf,Bd,A0,Dq,Bb,Ep,Cs,Be,Az,Ce,C0,Cb,Ba,Ai,B8,Oo,Em,Es,Eg,Cc,Bg,Br,C6,D6,Du,D3,D4,Av,F4,B0,Aq,H0,Ll,Pi,Js,M2,Pz,Jp,D9,Fb,D0,He,En,Ag,Ae,A3,Cd,Bv,Bm,Bx,Bw,A5,Bq,B3,Fc,Bi,Ay,A4,Bt,Cy,Cz,A7,A8,B9,Aw,Ao,Al,B5,B6,Af,Am,Ap,Cl,A1,Cj,A2,Ad,Ac,List.map_cons,List.map_nil,List.getD_cons_zero,List.getD_cons_succ,List.append_nil,List.flatMap_cons,List.flatMap_nil,List.getElem?_cons_zero,List.getElem?_cons_succ,decide_eq_true_eq,beq_iff_eq,bne_iff_ne,ne_eq,Nat.reduceLT,Nat.reduceEqDiff,and_true,Ca,Bu,↓reduceIte,reduceCtorEq,Int.natCast_nonneg,Bool.not_true,L.p.injEq,PV.bool.injEq,Bool.false_eq_true,Bool.and_true,Bool.or_false,Bool.or_true,beq_self_eq_true,and_self,Ja,I9,c0,Dr])|(exact True.intro)|(exfalso;omega)))
    ·obtain ⟨t1,t2,t3⟩:=Jgj h0
     rw [t1,t2] at hR2
     have c1:((0:Int)≤((Ks s).2.1:Int))=True:=eq_true (by omega)
     have c2:(((Ks s).2.1:Int)≤(s.length:Int))=True:=eq_true (by omega)
     have c3:Gp []=[]:=rfl
     (refine Bz.of_code (X:=cx) false [] (by simp) Tryz.func5 (by kernel_rfl) rfl (by simp only [List.length_cons,List.length_nil,Tryz.ntmps5];decide) (by simp) ?_;refine Ax hm _ _ _ ?_;simp only [Tryz.ntmps5,Tryz.results5,Ah,Bn,Ab,Bd,A0,Bb,Be,Az,Ce,C0,Ba,Ai,Cc,Ag,Ae,A3,Cd,Bv,Bm,Bx,Bw,A5,B3,Bi,Ay,A4,Cj,Ad,Ac,argW,List.map_cons,List.map_nil,List.append_nil,List.flatMap_cons,List.flatMap_nil,Nat.reduceLT,Nat.reduceEqDiff,Ca,Bu,↓reduceIte,reduceCtorEq,Nat.zero_add])
     (repeat' (first | (refine iteI (fun h=>?_) (fun h=>?_))|(refine B2 (by first | omega | (simp (disch:=omega) only [Aa,Ak,Aj] at *;omega)) ?_;intro b hb)|(refine And.intro (by first | omega | (simp (disch:=omega) only [Aa,Ak,Aj] at *;omega)) ?_)|((first | (refine A9 hm (by rfl) (by kernel_rfl) ?_)|(refine Det.use (hF) ?_)|(refine Det.useQ (hF) ?_)|(refine Ec.use (hF) ?_)|(refine C7.use (hF) ?_)|(refine Det.use (Nt) ?_)|(refine Det.useQ (Nt) ?_)|(refine Det.use (hPq) ?_)|(refine Det.useQ (hPq) ?_)|(refine Ec.use (hPq) ?_)|(refine C7.use (hPq) ?_)|(refine Det.use (hT) ?_)|(refine Det.useQ (hT) ?_)|(refine Ec.use (hT) ?_)|(refine C7.use (hT) ?_)|(refine Det.use (hR1) ?_)|(refine Det.useQ (hR1) ?_)|(refine Ec.use (hR1) ?_)|(refine C7.use (hR1) ?_)|(refine Det.use (hSm) ?_)|(refine Det.useQ (hSm) ?_)|(refine Ec.use (hSm) ?_)|(refine C7.use (hSm) ?_)|(refine Det.use (hR2) ?_)|(refine Det.useQ (hR2) ?_)|(refine Ec.use (hR2) ?_)|(refine C7.use (hR2) ?_));simp only [Ch,Ah,Bn,Bs,Cn,Ab,Cf,Bd,A0,Dq,Bb,Ep,Cs,Be,Az,Ce,C0,Cb,Ba,Ai,B8,Oo,Em,Es,Eg,Cc,Bg,Br,C6,D6,Du,D3,D4,Av,B0,Aq,H0,Ll,Pi,Js,M2,Jp,D9,Fb,D0,He,En,Ag,Ae,A3,Cd,Bv,Bm,Bx,Bw,A5,Bq,B3,Fc,Bi,Ay,A4,Bt,Cy,Cz,A7,A8,B9,Aw,Ao,Al,B5,B6,Af,Am,Ap,Cl,A1,Cj,A2,Ad,Ac,List.map_cons,List.map_nil,List.getD_cons_zero,List.getD_cons_succ,List.length_nil,List.append_nil,List.flatMap_cons,List.flatMap_nil,List.getElem?_cons_zero,List.getElem?_cons_succ,decide_eq_true_eq,beq_iff_eq,bne_iff_ne,ne_eq,Nat.reduceLT,Nat.reduceEqDiff,and_true,Ca,Bu,↓reduceIte,reduceCtorEq,Bool.not_true,L.p.injEq,PV.bool.injEq,Bool.false_eq_true,Bool.and_true,Bool.or_false,Bool.or_true,and_self,Ja,I9,c0,c1,c2,c3])|(exact True.intro)|(exfalso;omega)))
   ·have c0:((300:Int)<(s.length:Int))=True:=eq_true (by omega)
    have c1:=c0
    have c2:=c0
    have c3:=c0
    (refine Bz.of_code (X:=cx) false [] (by simp) Tryz.func5 (by kernel_rfl) rfl (by simp only [List.length_cons,List.length_nil,Tryz.ntmps5];decide) (by simp) ?_;refine Ax hm _ _ _ ?_;simp only [Tryz.ntmps5,Tryz.results5,Ah,Bn,Ab,Bd,A0,Bb,Be,Az,Ce,C0,Ba,Ai,Cc,Ag,Ae,A3,Cd,Bv,Bm,Bx,Bw,A5,B3,Bi,Ay,A4,Cj,Ad,Ac,argW,List.map_cons,List.map_nil,List.append_nil,List.flatMap_cons,List.flatMap_nil,Nat.reduceLT,Nat.reduceEqDiff,Ca,Bu,↓reduceIte,reduceCtorEq,Nat.zero_add])
    (repeat' (first | (refine iteI (fun h=>?_) (fun h=>?_))|(refine B2 (by first | omega | (simp (disch:=omega) only [Aa,Ak,Aj] at *;omega)) ?_;intro b hb)|(refine And.intro (by first | omega | (simp (disch:=omega) only [Aa,Ak,Aj] at *;omega)) ?_)|((first | (refine A9 hm (by rfl) (by kernel_rfl) ?_)|(refine Det.use (hF) ?_)|(refine Det.useQ (hF) ?_)|(refine Ec.use (hF) ?_)|(refine C7.use (hF) ?_)|(refine Det.use (Nt) ?_)|(refine Det.useQ (Nt) ?_)|(refine Det.use (hPq) ?_)|(refine Det.useQ (hPq) ?_)|(refine Ec.use (hPq) ?_)|(refine C7.use (hPq) ?_));simp only [Ah,Bn,Bs,Cn,Ab,Cf,Bd,A0,Dq,Bb,Cs,Be,Az,Ce,C0,Cb,Ba,Ai,B8,Oo,Em,Eg,Cc,Br,C6,D6,D3,D4,Av,B0,Aq,Js,Jp,D9,Fb,Ag,Ae,A3,Cd,Bv,Bm,Bx,Bw,A5,Bq,B3,Bi,Ay,A4,Bt,Cy,Cz,A7,A8,B9,Aw,Ao,Al,B5,B6,Af,Am,Ap,Cl,A1,Cj,A2,Ad,Ac,List.map_cons,List.map_nil,List.getD_cons_zero,List.getD_cons_succ,List.append_nil,List.flatMap_cons,List.flatMap_nil,decide_eq_true_eq,Nat.reduceLT,Nat.reduceEqDiff,Ca,Bu,↓reduceIte,reduceCtorEq,Bool.not_true,Bool.false_eq_true,Bool.or_true,and_self,Ja,c0])|(exact True.intro)|(exfalso;omega)))
  ·rw [decide_eq_false hok] at hPq
   have c0:=hok
   have c1:=c0
   have c2:=c0
   have c3:=c0
   (refine Bz.of_code (X:=cx) false [] (by simp) Tryz.func5 (by kernel_rfl) rfl (by simp only [List.length_cons,List.length_nil,Tryz.ntmps5];decide) (by simp) ?_;refine Ax hm _ _ _ ?_;simp only [Tryz.ntmps5,Tryz.results5,Ah,Bn,Ab,Bd,A0,Bb,Be,Az,Ce,C0,Ba,Ai,Cc,Ag,Ae,A3,Cd,Bv,Bm,Bx,Bw,A5,B3,Bi,Ay,A4,Cj,Ad,Ac,argW,List.map_cons,List.map_nil,List.append_nil,List.flatMap_cons,List.flatMap_nil,Nat.reduceLT,Nat.reduceEqDiff,Ca,Bu,↓reduceIte,reduceCtorEq,Nat.zero_add])
   (repeat' (first | (refine iteI (fun h=>?_) (fun h=>?_))|(refine B2 (by first | omega | (simp (disch:=omega) only [Aa,Ak,Aj] at *;omega)) ?_;intro b hb)|(refine And.intro (by first | omega | (simp (disch:=omega) only [Aa,Ak,Aj] at *;omega)) ?_)|((first | (refine A9 hm (by rfl) (by kernel_rfl) ?_)|(refine Det.use (hF) ?_)|(refine Det.useQ (hF) ?_)|(refine Ec.use (hF) ?_)|(refine C7.use (hF) ?_)|(refine Det.use (Nt) ?_)|(refine Det.useQ (Nt) ?_)|(refine Det.use (hPq) ?_)|(refine Det.useQ (hPq) ?_)|(refine Ec.use (hPq) ?_)|(refine C7.use (hPq) ?_));simp only [Ah,Bn,Bs,Cn,Ab,Cf,Bd,A0,Dq,Bb,Ep,Cs,Be,Az,Ce,C0,Ba,Ai,Oo,Em,Cc,Br,C6,D6,D3,D4,Jp,Ag,Ae,A3,Cd,Bv,Bm,Bx,Bw,A5,Bq,B3,Bi,Ay,A4,Bt,Cy,Cz,A7,A8,B9,Aw,Ao,Al,B5,B6,Af,Am,Ap,Cl,A1,Cj,A2,Ad,Ac,List.map_cons,List.map_nil,List.getD_cons_zero,List.getD_cons_succ,List.append_nil,List.flatMap_cons,List.flatMap_nil,Nat.reduceLT,Nat.reduceEqDiff,Bu,↓reduceIte,reduceCtorEq,Bool.not_true,Bool.not_false,Bool.false_eq_true,and_self])|(exact True.intro)|(exfalso;omega)))
 ·rw [decide_eq_false hf] at hF
  have c0:=hf
  have c1:=c0
  have c2:=c0
  have c3:=c0
  (refine Bz.of_code (X:=cx) false [] (by simp) Tryz.func5 (by kernel_rfl) rfl (by simp only [List.length_cons,List.length_nil,Tryz.ntmps5];decide) (by simp) ?_;refine Ax hm _ _ _ ?_;simp only [Tryz.ntmps5,Tryz.results5,Ah,Bn,Ab,Bd,A0,Bb,Be,Az,Ce,C0,Ba,Ai,Cc,Ag,Ae,A3,Cd,Bv,Bm,Bx,Bw,A5,B3,Bi,Ay,A4,Cj,Ad,Ac,argW,List.map_cons,List.map_nil,List.append_nil,List.flatMap_cons,List.flatMap_nil,Nat.reduceLT,Nat.reduceEqDiff,Ca,Bu,↓reduceIte,reduceCtorEq,Nat.zero_add])
  (repeat' (first | (refine iteI (fun h=>?_) (fun h=>?_))|(refine B2 (by first | omega | (simp (disch:=omega) only [Aa,Ak,Aj] at *;omega)) ?_;intro b hb)|(refine And.intro (by first | omega | (simp (disch:=omega) only [Aa,Ak,Aj] at *;omega)) ?_)|((first | (refine A9 hm (by rfl) (by kernel_rfl) ?_)|(refine Det.use (hF) ?_)|(refine Det.useQ (hF) ?_)|(refine Ec.use (hF) ?_)|(refine C7.use (hF) ?_)|(refine Det.use (Nt) ?_)|(refine Det.useQ (Nt) ?_));simp only [Ah,Bn,Bs,Cn,Ab,Cf,Bd,A0,Dq,Bb,Ep,Cs,Be,Az,Ce,C0,Ba,Ai,Oo,Em,Cc,Br,C6,D6,D3,D4,Jp,Ag,Ae,A3,Cd,Bv,Bm,Bx,Bw,A5,Bq,B3,Bi,Ay,A4,Bt,Cy,Cz,A7,A8,B9,Aw,Ao,Al,B5,B6,Af,Am,Ap,Cl,A1,A2,Ad,Ac,List.map_cons,List.map_nil,List.getD_cons_zero,List.getD_cons_succ,List.append_nil,List.flatMap_nil,Nat.reduceLT,Nat.reduceEqDiff,Bu,↓reduceIte,Bool.not_false,and_self])|(exact True.intro)|(exfalso;omega)))
end Go.LX
set_option maxRecDepth 100000
set_option maxHeartbeats 2000000
namespace Go.LX
open Go Go.RowKit Go.Proofs
attribute [local irreducible] Bz SWP Gm
end Go.LX
namespace Go.LX
open Go Go.Proofs Go.RowKit Go.ChangeShapes Go.WideShapes Go.ChangeAt
section
variable {H:Type} {enc:TypeId×Value→H} {P:Program}
theorem Wg (hl:laidOutB P=true) {W W':World} {sp:Nat→Bool}:∀ (ts:List TypeId) (vs:List Value) (ds:List (DataW H)) (ps:List MemPlace),(∀ t∈ts,P.readableRec t=true∧t<P.types.size) →
  DataW.TrodAll enc P W 0 (fun _=>true) true ts vs ds ps→(∀ p∈ps,W.sameAt W' p)→(∀ p∈ps,sp p.block=true)→DataW.TrodAll enc P W' 0 sp true ts vs ds ps
 | [],vs,ds,ps,_,h,_,_=>by
  obtain ⟨rfl,rfl,rfl⟩:=trodAll_nil h
  exact trodAll_mk0
 | t :: ts,vs,ds,ps,hr,h,hs,hb=>by
  obtain ⟨v,vs',d,ds',p,q,rfl,rfl,rfl,h0,h1⟩:=trodAll_cons h
  have ht:=hr t List.mem_cons_self
  exact trodAll_cons_mk (WideElems.Trod_stays hl ht.1 ht.2 h0 (fun x hx=>hs x (List.mem_append_left _ hx)) fun x hx=>hb x (List.mem_append_left _ hx))
   (Wg hl ts vs' ds' q (fun u hu=>hr u (List.mem_cons_of_mem _ hu)) h1 (fun x hx=>hs x (List.mem_append_right _ hx)) fun x hx=>hb x (List.mem_append_right _ hx))
theorem law_post (hl:laidOutB P=true) {f:Func} {s:ChangeSpec} {b:TypeId} {W W':World} {args:Array Value} {ds gs:List (DataW H)} {before:List MemPlace} (hv:s.vars=[])
  (hrd:∀ t∈f.params.toList,P.readableRec t=true∧t<P.types.size) (hrt:f.resultTypes = #[b]) (hb:P.underlying b=some .bool)
  (hW:DataW.Whole enc P f.params.toList s.vars false W args.toList ds gs before) (hfn:s.fn H ds = { results:=[.lit (.bool true)],args:=ds }) (hbel:Below W.heap.size W W') :
  s.post enc P f false true false false W args (.bool true) W':=by
 have hW':=hW
 have hlt:∀ p∈before,p.block<W.heap.size:=fun p hp=>hW'.lt p hp
 obtain ⟨p,q,hA,hV,rfl,hfz,hnd⟩:=hW
 rw [hv] at hV
 obtain ⟨rfl,rfl⟩:=trodVars_none hV
 simp only [List.append_nil] at hlt
 refine ⟨ds,[],p ++ [],[],p,[],hW',?_,?_,?_,hbel.frame _,fun h=>by cases h⟩
 ·rw [List.append_nil,hfn,hrt]
  exact trodAll_mk1 (shut_bool hb _)
 ·rw [List.append_nil,hfn]
  exact Wg hl _ _ _ _ hrd hA (fun x hx=>hbel.same (hlt x hx)) fun x hx=>by simpa using hlt x hx
 ·rw [List.append_nil,hfn,hv]
  rfl
end
end Go.LX
set_option maxRecDepth 100000
namespace Go.LX
open Go Go.Proofs Go.RowKit Go.ChangeShapes Go.WideShapes Go.ChangeAt Go.Lib
open Go.Proofs.YtmejkfclabmijaaGreatDoor
theorem Xu {P:Program} {w:World} {x:String×DataW Unit} {l:List (String×DataW Unit)} (h:laidMet P (x :: l) w):laidMet P l w:=by
 obtain ⟨ps,h1,h2,h3⟩:=h
 obtain ⟨n,d⟩:=x
 obtain ⟨g,t,cs,fuel,p,q,_,_,_,_,h5,rfl⟩:=h1
 exact ⟨q,h5,(List.nodup_append.1 h2).2.1,fun b off hb=>h3 b off (List.mem_append_right _ hb)⟩
theorem Jnt (x:ByteArray):(⟨⟨x.data.toList⟩⟩:ByteArray)=x:=by rcases x with ⟨⟨l⟩⟩;rfl
theorem Jp8 (s:ByteArray):s.data.toList.length=s.size:=by simp
theorem Jmp {P:Program} {w:World} {sp:Nat→Bool} {t:TypeId} {cs:List Value} {nm:String} {d:DataW Unit} {p:List MemPlace} {u:TypeDesc} (ht:P.underlying t=some u) (hu:∃ m,u=.interface m) :
  ∀ {fuel:Nat},DataW.trod (fun _=>()) P w 0 sp false fuel t cs=some (.iface nm d,p)→∃ te pe,cs=[.iface te pe]
 | 0,h=>by simp [DataW.trod] at h
 | fuel+1,h=>by
  obtain ⟨m,rfl⟩:=hu
  rcases cs with _ | ⟨c,_ | ⟨c2,cs⟩⟩
  ·simp [DataW.trod,ht] at h
  ·cases c <;> first | exact ⟨_,_,rfl⟩ | (simp [DataW.trod,ht] at h;done)
  ·simp [DataW.trod,ht] at h
theorem Jke {w:World} {n:String} {nm:String} {d:DataW Unit} {g:Nat} {t:TypeId} {u:TypeDesc} (h:VarReads Tryz.prog w n (.iface nm d)) (hg:Tryz.prog.globalNamed n=some g) (ht:(Tryz.prog.globals[g]?).map (·.type)=some t) (hu:Tryz.prog.underlying t=some u) (hi:∃ m,u=.interface m):ErrAt g w:=by
 obtain ⟨g',t',cs,fuel,p,h1,h2,h3,h4⟩:=h
 obtain rfl:=Option.some.inj (hg.symm.trans h1)
 obtain rfl:=Option.some.inj (ht.symm.trans h2)
 obtain ⟨te,pe,e⟩:=Jmp hu hi h4
 refine ⟨te,pe,?_⟩
 rw [World.var?_cell hg h3 0,← Array.getElem?_toList,e]
 rfl
theorem gOwn:ownKnob Tryz.prog.godebug=none:=by kernel_rfl
theorem gLaidOut:laidOutB Tryz.prog=true:=by kernel_rfl
theorem gFirst:Go.Pinned.utf8First=firstData:=by kernel_rfl
theorem u8T:U8Types Tryz.prog Tryz.lays197_ren:=⟨by kernel_rfl,by kernel_rfl,by kernel_rfl,by kernel_rfl⟩
theorem u8X:U8Extra Tryz.prog Tryz.lays197_ren:=⟨by kernel_rfl,by kernel_rfl,by kernel_rfl,by kernel_rfl,by kernel_rfl,by kernel_rfl,by kernel_rfl⟩
def tz64:List Int:=Lib.deBruijn64tab.map fun n:Nat=>(n:Int)
def Jfz (W:World) (b:Nat):Prop:=b<W.heap.size
theorem Vy {W:World} {n:String} {d:DataW Unit} {g:Nat} (h:VarReads Tryz.prog W n d) (hg:Tryz.prog.globalNamed n=some g):g<W.heap.size:=by
 obtain ⟨g',t',cs,fuel,p,h1,_,h3,_⟩:=h
 obtain rfl:=Option.some.inj (hg.symm.trans h1)
 unfold World.var? at h3
 rw [hg] at h3
 simp only [Option.bind_some] at h3
 rcases Nat.lt_or_ge g W.heap.size with h | h
 ·exact h
 ·rw [Array.getElem?_eq_none h] at h3;cases h3
theorem pathG {W:World} (h:laidMetH Tryz.prog Rows.pathTextsRow.laid W):QuoteG W (Jfz W):=by
 have h0:laidMet Tryz.prog Rows.pathTextsRow.laid W:=h
 have h1:=Xu h0
 have h2:=Xu h1
 have r1:VarReads Tryz.prog W "unicode/utf8.first" Rows.laid_unicode_utf8_first:=laidMet.reads h0 (by simp [Rows.pathTextsRow])
 have r2:VarReads Tryz.prog W "unicode/utf8.acceptRanges" Rows.laid_unicode_utf8_acceptRanges:=laidMet.reads h0 (by simp [Rows.pathTextsRow])
 have r3:VarReads Tryz.prog W "strconv.ErrSyntax" Rows.laid_strconv_ErrSyntax:=laidMet.reads h0 (by simp [Rows.pathTextsRow])
 have r4:VarReads Tryz.prog W "strconv.ErrRange" Rows.laid_strconv_ErrRange:=laidMet.reads h0 (by simp [Rows.pathTextsRow])
 have r5:VarReads Tryz.prog W "math/bits.deBruijn64tab" Rows.laid_math_bits_deBruijn64tab:=laidMet.reads h0 (by simp [Rows.pathTextsRow])
 have r6:VarReads Tryz.prog W "internal/strconv.uint64pow10" Rows.laid_internal_strconv_uint64pow10:=laidMet.reads h0 (by simp [Rows.pathTextsRow])
 refine ⟨?_,?_,?_,?_,?_,Vy r1 (by kernel_rfl),Vy r2 (by kernel_rfl),Vy r3 (by kernel_rfl),Vy r4 (by kernel_rfl),Vy r5 (by kernel_rfl),Vy r6 (by kernel_rfl)⟩
 ·have f1:VarReads Tryz.prog W "unicode/utf8.first" firstData:=by
   rw [← gFirst]
   exact laidMet.reads h0 (by simp [Rows.pathTextsRow,Rows.laid_unicode_utf8_first])
  have f2:VarReads Tryz.prog W "unicode/utf8.acceptRanges" acceptData:=laidMet.reads h0 (by
   rw [show (acceptData:DataW Unit)=Rows.laid_unicode_utf8_acceptRanges by kernel_rfl]
   simp [Rows.pathTextsRow])
  exact utf8Tabs_of_readsT u8T u8X f1 f2
 ·exact Jke r3 (by kernel_rfl) (by kernel_rfl) Tryz.underlying113 ⟨_,rfl⟩
 ·exact Jke r4 (by kernel_rfl) (by kernel_rfl) Tryz.underlying113 ⟨_,rfl⟩
 ·have ht:TabIs Tryz.prog W "math/bits.deBruijn64tab" .u8 tz64:=tabIs_of_head (g:=7) (t:=275) (e:=5) (n:=64) (by kernel_rfl) (by kernel_rfl) (by kernel_rfl) (by kernel_rfl) (by kernel_rfl) (by kernel_rfl) (k:=.u8) (zs:=tz64) h1
  intro j hj
  have:=ht.cell (g:=7) (by kernel_rfl) j (by simpa [tz64] using hj)
  rw [this]
  simp [tz64,List.getD_eq_getElem?_getD,hj]
 ·exact tabIs_of_head (g:=5) (t:=252) (e:=189) (n:=20) (by kernel_rfl) (by kernel_rfl) (by kernel_rfl) (by kernel_rfl) (by kernel_rfl) (by kernel_rfl) (k:=.u64) (zs:=Lib.pow10Tab) h2
def Jj8 (d:DataW Unit):List Value:=match d with
 | .agg l=>l.flatMap fun x=>match x with
  | .lit (.int k n)=>[Value.int k n]
  | .agg l'=>l'.flatMap fun y=>match y with
   | .lit (.int k n)=>[Value.int k n]
   | _=>[]
  | _=>[]
 | _=>[]
noncomputable def Y7 (os:Os):World :=
 let N:=(World.settled Tryz.prog os).heap.size
 let w0:=World.holding Tryz.prog os ⟨#[
  .cells #[.string ⟨#[118,97,108,117,101,32,111,117,116,32,111,102,32,114,97,110,103,101]⟩] 258,.cells #[.string ⟨#[105,110,118,97,108,105,100,32,115,121,110,116,97,120]⟩] 258],#[],[]⟩
 let put (h:Array Obj) (g:Nat) (cs:Array Value):Array Obj:=h.modify g fun
  | .cells _ t frozen=>.cells cs t frozen
  | o=>o
 let h1:=put w0.heap 6 (Jj8 Rows.laid_math_bits_deBruijn32tab).toArray
 let h2:=put h1 7 (Jj8 Rows.laid_math_bits_deBruijn64tab).toArray
 let h3:=put h2 5 (Jj8 Rows.laid_internal_strconv_uint64pow10).toArray
 let h4:=put h3 1 (Jj8 Rows.laid_unicode_utf8_acceptRanges).toArray
 let h5:=put h4 4 #[.iface 256 (.pointer (some ⟨N,0,none⟩))]
 let h6:=put h5 3 #[.iface 256 (.pointer (some ⟨N+1,0,none⟩))]
 let h7:=put h6 0 (Jj8 Rows.laid_unicode_utf8_first).toArray
 { w0 with heap:=h7 }
theorem Jqx (os:Os) (args:Array Value):laidMet Tryz.prog Rows.pathTextsRow.laid ((Y7 os).forCall (fun _ _=>0) ⟨#[],args,[]⟩).memory :=
 laidMet_of_run' 8 (by kernel_rfl) (by kernel_rfl)
theorem arg_str {P:Program} {W:World} {r:Reach} {b:Nat} {t:TypeId} {v:Value} (ht:P.underlying t=some .string) (h:Cell.okWide P W r b t v):∃ s:List UInt8,v=.string ⟨⟨s⟩⟩∧s.length≤9223372036854775807:=by
 simp only [Cell.okWide,Cell.ok,ht] at h
 cases v with
 | string s =>
  refine ⟨s.data.toList,by rw [Jnt],?_⟩
  have h':(s.size:Int)≤IntKind.i64.max:=h
  have e:IntKind.i64.max=9223372036854775807:=rfl
  have e2:s.data.toList.length=s.size:=Jp8 s
  omega
 | _=>simp at h
theorem argStr {W:World} {b:Nat} {v:Value} (h:Value.okWide Tryz.prog W .any b 9 v):∃ s:List UInt8,v=.string ⟨⟨s⟩⟩∧s.length≤9223372036854775807:=by
 simp only [Value.okWide,Tryz.underlying9] at h
 exact arg_str Tryz.underlying9 h
theorem trod_string {H:Type} {enc:TypeId×Value→H} {P:Program} {w:World} {base:Nat} {sp:Nat→Bool} {held:Bool} {t:TypeId} {s:List UInt8} {d:DataW H} {p:List MemPlace} (ht:P.underlying t=some .string) (h:DataW.Trod enc P w base sp held t (.string ⟨⟨s⟩⟩) d p):d=.lit (.string s):=by
 obtain ⟨fuel,h⟩:=h
 cases fuel with
 | zero=>simp [DataW.trod] at h
 | succ f =>
  simp only [DataW.trod,ht,Value.cells] at h
  split at h
  ·simp at h;exact h.1.symm
  ·cases h
theorem listOf {α:Type} {Q:Nat→α→Prop}:∀ n,(∀ i,i<n→∃ x,Q i x)→∃ p:List α,p.length=n∧∀ i x,p[i]? = some x→Q i x
 | 0,_=>⟨[],rfl,fun i x h=>by simp at h⟩
 | n+1,h=>by
  obtain ⟨p,hp,hq⟩:=listOf n fun i hi=>h i (by omega)
  obtain ⟨x,hx⟩:=h n (by omega)
  refine ⟨p ++ [x],by simp [hp],fun i y hy=>?_⟩
  rcases Nat.lt_trichotomy i n with hi | hi | hi
  ·rw [List.getElem?_append_left (by omega)] at hy;exact hq i y hy
  ·subst hi
   rw [List.getElem?_append_right (by omega),hp] at hy
   simp at hy;subst hy;exact hx
  ·rw [List.getElem?_eq_none (by simp [hp];omega)] at hy;cases hy
theorem Ue {H:Type} {P:Program} {e:TypeId} {d:DataW H} {n:Nat}:∀ {l:List (DataW H)},d∈l→n∈d.weights P e→n∈DataW.weightsAll P e l
 | [],h,_=>by cases h
 | a :: l,h,hn=>by
  simp only [DataW.weightsAll,List.mem_append]
  rcases List.mem_cons.1 h with rfl | h
  ·exact .inl hn
  ·exact .inr (Ue h hn)
theorem addrNone (b off k:Nat):(⟨b,off,none⟩:Addr).add k=⟨b,off+k,none⟩:=by
 unfold Addr.add
 split
 ·rename_i h;subst h;rfl
 ·rfl
theorem openRows {α H:Type} {enc:TypeId×Value→H} {P:Program} {w:World} {t e:TypeId} {c:Nat} (vals:α→List Value) (cells:α→List PV) (Good:α→Prop)
  (ht:P.underlying t=some (.slice e)) (hc:P.cellsOf e=c) (hb:0<P.bytesOf e) (hvl:∀ x,(vals x).length=c) (hcl:∀ x,(cells x).length=c) (hsc:∀ x,∀ p∈cells x,p.scalar=true)
  (hrep:∀ (Im:Nat→Prop) x j p,(cells x)[j]? = some p→PRep w Im ((vals x).getD j undef) p)
  (each:∀ (fuel:Nat) (cs:List Value) (y:DataW H×List MemPlace),DataW.trod enc P w 0 (fun _=>true) true fuel e cs=some y→(∀ n∈y.1.weights P e,n≤reachBytes)→∃ x,Good x∧cs=vals x)
  {b:Nat} {v:Value} (hok:Cell.okWide P w .any b t v) {fuel:Nat} {x:DataW H×List MemPlace} (h:DataW.trod enc P w 0 (fun _=>true) true fuel t [v]=some x) (hz:∀ n∈x.1.weights P t,n≤reachBytes) :
  ∃ p:List α,p.length≤140737488355328∧(∀ a∈p,Good a)∧PRep w (Jfz w) v (.sl (p.map cells)):=by
 rcases Go.Deep.open_slice ht h with ⟨e1,rfl⟩ | ⟨a,len,cap,m,n,D,Pl,e1,hb0,hl,hm,hmm,rfl,hx⟩
 ·obtain rfl:=(List.cons.inj e1).1
  exact ⟨[],by simp,by simp,PRep.slNil⟩
 ·obtain rfl:=(List.cons.inj e1).1
  simp only [Cell.okWide,Cell.ok,ht] at hok
  obtain ⟨_,_,_,hsp,row,cl,hshape,_⟩:=hok
  obtain ⟨blk,off,spot⟩:=a
  simp only at hsp
  subst hsp
  simp only [if_true] at hmm
  subst hmm
  have hreach:reachBytes≤140737488355328:=by decide
  have hlen:len≤140737488355328:=by
   have h1:=hz ((len+(m - len)) * P.bytesOf e) (by simp [DataW.weights,ht])
   have h2:len≤(len+(m - len)) * P.bytesOf e:=by
    have:(len+(m - len)) * 1≤(len+(m - len)) * P.bytesOf e:=Nat.mul_le_mul_left _ hb
    omega
   omega
  obtain ⟨p,hp,hq⟩:=listOf (Q:=fun i x=>Good x∧w.cells? 0 ((⟨blk,off,none⟩:Addr).add (i * c)) c=some (vals x)) len fun i hi=>by
   obtain ⟨cs',h1,h2⟩:=hx i (by omega)
   rw [hc] at h1
   obtain ⟨x,hg,rfl⟩:=each n cs' _ h2 (fun k hk=>hz k (by
    simp only [DataW.weights,ht,List.mem_cons,List.mem_append]
    exact .inr (.inl (Ue (List.mem_map.2 ⟨i,List.mem_range.2 hi,rfl⟩) hk))))
   exact ⟨x,hg,h1⟩
  refine ⟨p,by omega,fun a ha=>?_,?_⟩
  ·obtain ⟨i,hi⟩:=List.getElem?_of_mem ha
   exact (hq i a hi).1
  ·have hblk:blk<w.heap.size:=by
    rcases Nat.lt_or_ge blk w.heap.size with h | h
    ·exact h
    ·unfold World.shape? at hshape
     rw [Array.getElem?_eq_none h] at hshape;cases hshape
   have e2:len=(p.map cells).length:=by simp [hp]
   have key:=PRep.sl (w:=w) (Im:=Jfz w) blk off m c (p.map cells) (by rw [← e2];exact hl) hblk (fun i j=>match p[i]? with | some x=>(vals x).getD j undef | none=>undef)
    (fun r hr=>by obtain ⟨x,_,rfl⟩:=List.mem_map.1 hr;exact hcl x)
    (fun r hr=>by obtain ⟨x,_,rfl⟩:=List.mem_map.1 hr;exact hsc x)
    (fun i hi j hj=>by
     rw [← e2] at hi
     obtain ⟨x,hx'⟩:∃ x,p[i]? = some x:=⟨_,List.getElem?_eq_getElem (by omega)⟩
     have h1:=(World.cells?_some (hq i x hx').2).2.2 j hj
     rw [Go.Deep.add_add,addrNone,← Nat.add_assoc] at h1
     rw [h1,hx']
     have h3:j<(vals x).length:=by rw [hvl];exact hj
     simp [List.getD_eq_getElem?_getD,List.getElem?_eq_getElem h3])
    (fun i r j q hr hq'=>by
     rw [List.getElem?_map] at hr
     cases hx':p[i]? with
     | none=>rw [hx'] at hr;cases hr
     | some x =>
      rw [hx'] at hr
      obtain rfl:=Option.some.inj hr
      exact hrep _ x j q hq')
   rw [← e2] at key
   exact key
theorem cStep:Tryz.prog.cellsOf 47=3:=by kernel_rfl
theorem bStep:0<Tryz.prog.bytesOf 47:=by decide +kernel
def Step.vals (x:Step):List Value:=[.bool x.part,.string ⟨⟨x.name⟩⟩,.int .i64 x.n]
theorem Jqo {H:Type} {enc:TypeId×Value→H} {w:World} (fuel:Nat) (cs:List Value) (y:DataW H×List MemPlace) (h:DataW.trod enc Tryz.prog w 0 (fun _=>true) true fuel 47 cs=some y) (hz:∀ n∈y.1.weights Tryz.prog 47,n≤reachBytes) :
  ∃ x:Step,x.name.length≤140737488355328∧cs=x.vals:=by
 obtain ⟨xs,n,_,rfl,hl,hlen,hf⟩:=DataW.trod_struct Tryz.underlying47 h
 rw [cStep] at hl
 match xs,hlen,cs,hl with
 | [y0,y1,y2],_,[a,b,c],_ =>
  have g0:=hf 0 _ rfl
  have g1:=hf 1 _ rfl
  have g2:=hf 2 _ rfl
  simp only [List.drop_zero,List.drop_succ_cons,List.take_succ_cons,List.take_zero,List.getElem?_cons_zero,List.getElem?_cons_succ] at g0 g1 g2
  obtain ⟨x0,e0,rfl⟩:=DataW.trod_bool Tryz.underlying4 g0
  obtain ⟨x1,e1,rfl,_⟩:=DataW.trod_string Tryz.underlying9 g1
  obtain ⟨x2,e2,rfl,_⟩:=DataW.trod_int Tryz.underlying3 g2
  cases e0;cases e1;cases e2
  refine ⟨⟨x0,x1.data.toList,x2⟩,?_,?_⟩
  ·have h1:=hz x1.data.toList.length (by simp [DataW.weights,DataW.weightsEach,Tryz.underlying47])
   have hreach:reachBytes≤140737488355328:=by decide
   exact Nat.le_trans h1 hreach
  ·simp only [Step.vals,Jnt]
theorem Jq7 (w:World) (Im:Nat→Prop) (x:Step) (j:Nat) (p:PV) (h:x.cells[j]? = some p):PRep w Im (x.vals.getD j undef) p:=by
 match j,h with
 | 0,h=>cases h;exact PRep.bool _
 | 1,h=>cases h;exact PRep.str _
 | 2,h=>cases h;exact PRep.int _ _
 | j+3,h=>simp [Step.cells] at h
theorem Jqz {H:Type} {enc:TypeId×Value→H} {w:World} {b:Nat} {v:Value} (hok:Cell.okWide Tryz.prog w .any b 23 v) {fuel:Nat} {x:DataW H×List MemPlace} (h:DataW.trod enc Tryz.prog w 0 (fun _=>true) true fuel 23 [v]=some x) (hz:∀ n∈x.1.weights Tryz.prog 23,n≤reachBytes) :
  ∃ p:List Step,PathFit p∧PRep w (Jfz w) v (.sl (Gp p)):=by
 obtain ⟨p,h1,h2,h3⟩:=openRows Step.vals Step.cells (fun x=>x.name.length≤140737488355328) Tryz.underlying23 cStep bStep (fun _=>rfl) (fun _=>rfl) (fun x p hp=>by simp [Step.cells] at hp;rcases hp with rfl | rfl | rfl <;> rfl) (Jq7 w) Jqo hok h hz
 exact ⟨p,⟨h1,h2⟩,h3⟩
theorem one_cell {P:Program} {W:World} {r:Reach} {b:Nat} {t e:TypeId} {v:Value} (ht:P.underlying t=some (.slice e)) (h:Cell.okWide P W r b t v):v.cells.toList=[v]:=by
 simp only [Cell.okWide,Cell.ok,ht] at h
 cases v <;> first | rfl | (simp at h;done)
theorem Jiw {H:Type} {P:Program} {ts:List TypeId} {ds:List (DataW H)} (hz:(DataW.weightsEach P ts ds).all (· ≤ reachBytes)=true) {j:Nat} {t:TypeId} {d:DataW H} (h1:ts[j]? = some t) (h2:ds[j]? = some d):∀ n∈d.weights P t,n≤reachBytes:=fun n hn=>by
 simpa using List.all_eq_true.1 hz n (DataW.weights_mem_each h1 h2 n hn)
theorem argPath {H:Type} {enc:TypeId×Value→H} {w:World} {b:Nat} {v:Value} {d:DataW H} {q:List MemPlace} {ts:List TypeId} {ds:List (DataW H)} (hok:Value.okWide Tryz.prog w .any b 23 v) (h:DataW.Trod enc Tryz.prog w 0 (fun _=>true) true 23 v d q)
  (hz:(DataW.weightsEach Tryz.prog ts ds).all (· ≤ reachBytes)=true) {j:Nat} (h1:ts[j]? = some 23) (h2:ds[j]? = some d):∃ p:List Step,PathFit p∧PRep w (Jfz w) v (.sl (Gp p)):=by
 simp only [Value.okWide,Tryz.underlying23] at hok
 obtain ⟨fuel,h⟩:=h
 rw [one_cell Tryz.underlying23 hok] at h
 exact Jqz hok h (Jiw hz h1 h2)
end Go.LX
