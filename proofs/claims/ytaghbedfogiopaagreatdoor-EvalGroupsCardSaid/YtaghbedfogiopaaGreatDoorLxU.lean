/- Paths: something else set. -/
import Derived.Test.YtaghbedfogiopaaGreatDoorLxT
import Derived.OpenShut
import Derived.ProofKit
import Derived.Deep.Slices
import Derived.Test.YtaghbedfogiopaaGreatDoorCards
import Derived.Test.YtaghbedfogiopaaGreatDoorTie
import Derived.Deep.DeepWitnessRowRef
import Derived.Lib.LaidIn
import Derived.Lib.LaidU8T
import Derived.Lib.Repeat
set_option linter.unusedSimpArgs false
set_option linter.unusedVariables false
set_option linter.unusedSectionVars false
set_option linter.unnecessarySimpa false
set_option maxRecDepth 100000
set_option maxHeartbeats 2000000
namespace Go.LX
open Go Go.RowKit Go.Proofs
attribute [local irreducible] Al SWP Bi
theorem Kfd (l:List (List UInt8×Tree)) (hv:(A1 (unn l)).enc.length<=1350000000000):Det cx 69 [.p (.sl (A4 l))] [] (.p (.sl (valL ((Tree.mk 5 [] false 0 (A1 (unn l))).enc [])))) []:=by
 have hll:=Jqi (A1 (unn l));rw [Ca,Kp] at hll;have c1:(1+(A1 (unn l)).enc.length<=(A1 (unn l)).enc.length+1)=True:=eq_true omg;have t1:∀ h:List PV,(h :: valL (A1 (unn l)).enc).take (1+(A1 (unn l)).enc.length)=h :: valL (A1 (unn l)).enc:=fun h=>Ead (by simp;omega)
 (refine bgo Tryz.func69 ?_;simp only [go_sem,simprocAttr,A5]);(repeat' (first|((refine Jqa (Y7 l hv) ?_);simp only [go_sem,simprocAttr,A7,c1,t1])|fail));(repeat' (first|(refine And.intro (by first | omega | (simp;done)|(simp;omega) | exact E7 _) ?_)|fail));rw [A6,Ca,Kp];rfl
def FitT (t:Tree):Prop:=∀ n∈t.enc [],NodeFit n
theorem O4 {nm:List UInt8} {t:Tree}:∀ {f:Forest},(nm,t)∈f.list->∀ n∈t.enc nm,n∈f.enc
 | .nil,h,_,_=>by cases h
 | .cons a b r,h,n,hn=>by
  rw [A0,Eau];rcases Eaj.1 h with h | h
  ·cases h;exact .inl hn
  ·exact .inr (O4 h n hn)
theorem Y3 {t:Tree} {a b:List UInt8} (h:∀ n∈t.enc a,NodeFit n) (hb:b.length<=1000000):∀ n∈t.enc b,NodeFit n:=by
 cases t with
 | mk k s g e kids =>
  rw [A6] at h ⊢;intro n hn;rcases Eaj.1 hn with rfl | hn
  ·have:=h _ Eaf;exact ⟨this.s,hb,this.e0,this.e1⟩
  ·exact h n (Eag _ hn)
theorem Mg {k:Int} {s:List UInt8} {g:Bool} {e:Int} {kids:Forest} (h:FitT (.mk k s g e kids)) {p:List UInt8×Tree} (hp:p∈kids.list):p.1.length<=1000000/\FitT p.2:=by
 obtain ⟨nm,t⟩:=p;have h1:∀ n∈t.enc nm,NodeFit n:=fun n hn=>h n (by rw [A6];exact Eag _ (O4 hp n hn))
 refine ⟨?_,Y3 h1 sm⟩;cases t with
 | mk k s g e kids =>
  exact (h1 _ (by rw [A6];exact Eaf)).name
theorem Ji9 {t w:Tree} {x:Step} (h:FitT t) (hi:inT t x=.ok w):FitT w:=by
 cases t with
 | mk k s g e kids =>
  obtain ⟨p,h1,rfl⟩:=Jd5 hi;exact (Mg h h1).2
theorem S7 (l:List (List UInt8×Tree)) (n:Nat) (y:Tree):(A4 l).set n [.sl (valL (y.enc []))]=A4 (l.set n ([],y)):=by simp [A4,Edj]
theorem Pm {l:List KT} {i:Nat} {y:Tree}:(A1 (unn (l.set i ([],y)))).enc.length<=(A1 l).enc.length+(y.enc []).length:=by
 induction l generalizing i with
 | nil=>simp [unn,A1,Bl]
 | cons p l ih =>
  have hl:∀ l:List KT,(A1 (unn l)).enc.length=(A1 l).enc.length:=by
   intro l
   induction l with
   | nil=>rfl
   | cons q l ih =>
    unfold unn at ih ⊢;simp only [Eat,A1,A0,Eac,ih,G7 _ q.1]
  cases i with
  | zero =>
   rw [hl];simp only [List.set_cons_zero,A1,A0,Eac];omega
  | succ i =>
   have:=ih (i:=i);rw [hl] at this ⊢;simp only [List.set_cons_succ,A1,A0,Eac];omega
theorem Jkz {s:List UInt8} {g:Bool} {e:Int} {kids:Forest} {x:Step} {y:Tree} (hp:x.part=true):putT (.mk 5 s g e kids) x y=.mk 5 [] false 0 (A1 (unn (kids.list.set x.n.toNat ([],y)))):=by
 show (if x.part=true then nd 5 _ else _)=_;rw [if_pos hp];rfl
theorem Jkb {s:List UInt8} {g:Bool} {e:Int} {kids:Forest} {x:Step} {y:Tree} (hp:x.part=false):putT (.mk 6 s g e kids) x y=.mk 6 [] false 0 (A1 (putL x.name y (A8 x.name kids.list))):=by
 show (if x.part=true then _ else nd 6 _)=_;rw [if_neg (by simp [hp])];rfl
theorem Jei (t u:Tree):Det cx 67 [.p (.sl (Bb [])),.p (.sl (valL (t.enc []))),.p (.sl (valL (u.enc [])))] [] (getR (setT [] t u)) []:=by
 have hpe:Bb []=[]:=rfl;(refine bgo Tryz.func67 ?_;simp only [go_sem,simprocAttr,hpe]);rfl
theorem Hu {p:List Step} {t u:Tree} {e:Nat} (h:setT p t u=.error e):e=5\/e=6:=by
 rw [Km] at h
 induction p generalizing t with
 | nil=>cases h
 | cons x p ih =>
  rw [getT] at h;cases hi:inT t x with
  | error e'=>rw [hi] at h;cases h;exact M2 hi
  | ok w=>rw [hi] at h;exact ih h
theorem L8:∀ (p:List Step) (t u:Tree),p.length<=1000->(∀ x∈p,Bc x)->okT t->okT u->(t.enc []).length+(u.enc []).length<=300000000000->Det cx 67 [.p (.sl (Bb p)),.p (.sl (valL (t.enc []))),.p (.sl (valL (u.enc [])))] [] (getR (setT p t u)) []
 | [],t,u,hp,hok,ht,hu,hs=>Jei t u
 | x :: p,t,u,hp,hok,ht,hu,hs=>by
  have hx:=hok x Eaf;have hpl:Bb (x :: p)=[.bool x.part,.str x.name,.int .i64 x.n] :: Bb p:=rfl;have hcl:((((Bb p).length+1:Nat):Int)=0)=False:=eq_false omg;have hin:=d_in t x omg hx;simp only [List.length_cons] at hp;cases hi:inT t x with
  | error e =>
   rw [hi] at hin;unfold getR at hin;have he:=M2 hi;have c1:((e:Int)=0)=False:=eq_false omg;have hps:=c1;have c2:=c1;have c3:=c1;have l1:=c1;have l2:=c1;have hpt:=c1;have hxm:=c1;(refine bgo Tryz.func67 ?_;simp only [go_sem,simprocAttr,hpl,hcl]);(repeat' (first|((refine Jqa hin ?_);simp only [go_sem,simprocAttr,c1])|fail));rw [setT,hi];rfl
  | ok w =>
   rw [hi] at hin;unfold getR at hin;have hle:=Q7 hi;have hw:=Jv ht hi;have ih:=L8 p w u omg (fun y hy=>hok y (Eag _ hy)) (Ig ht hw) hu omg;cases hz:setT p w u with
   | error e =>
    rw [hz] at ih;unfold getR at ih;have he:=Hu hz;have c1:((e:Int)=0)=False:=eq_false omg;have hps:=c1;have c2:=c1;have c3:=c1;have l1:=c1;have l2:=c1;have hpt:=c1;have hxm:=c1;(refine bgo Tryz.func67 ?_;simp only [go_sem,simprocAttr,hpl,hcl]);(repeat' (first|((refine Jqa hin ?_);simp only [go_sem,simprocAttr])|fail));refine ⟨by intro z hz';rcases Eaj.1 hz' with rfl | hz';(· rfl);exact Bp _ z hz',by omega,?_⟩;(repeat' (first|((refine Jqa ih ?_);simp only [go_sem,simprocAttr,c1])|fail));rw [setT,hi];simp only;rw [hz];rfl
   | ok y =>
    rw [hz] at ih;unfold getR at ih;have hyl:=(Kg (Ig ht hw) hu hz)
    obtain ⟨_,_,_,_,_,_,hyl⟩:=hyl;have c1:=hpl;have hres:setT (x :: p) t u=.ok (putT t x y):=by rw [setT,hi];simp only;rw [hz]
    rw [hres];cases t with
    | mk k s g e kids =>
    have hkv:kids.enc.length<=300000000000:=by rw [A6] at hs;simp at hs;omega
    have hll:=Jqi kids;have hkl:=Jqh kids;cases hpt:x.part with
    | true =>
     obtain ⟨l,h5,_,hn,hg⟩ | ⟨_,_,h6,_,_⟩:=hw
     rotate_left
     ·rw [hpt] at h6;cases h6
     unfold nd at h5;injection h5 with q1 q2 q3 q4 q5
     subst q1;have hkk:kids.list=l:=by rw [q5,Ea]
     unfold Bc at hx;rw [if_pos hpt] at hx;obtain ⟨m,hxm⟩:∃ m:Nat,x.n=m:=⟨x.n.toNat,by omega⟩
     rw [Jkz hpt,hxm];simp only [Int.toNat_natCast];have hml:m<kids.len:=by
      have:=(Eab.1 hg).1;rw [hxm] at this;simp only [Int.toNat_natCast] at this;rw [<- hkl,hkk];exact this
     obtain ⟨q,hq⟩:∃ q,kids.list[m]? = some q:=⟨_,Eaa omg⟩
     have c2:=Hx hq;have c3:(A4 kids.list).length=kids.len:=by rw [A5,hkl]
     have hps:=S7 kids.list m y;have l1:(A4 (kids.list.set m ([],y))).take kids.len=A4 (kids.list.set m ([],y)):=Ead (by rw [A5,List.length_set];omega);have l2:(kids.len<=(A4 (kids.list.set m ([],y))).length)=True:=eq_true (by rw [A5,List.length_set];omega);have hus:=Pm (l:=kids.list) (i:=m) (y:=y);rw [G1] at hus;have hL:=Kfd (kids.list.set m ([],y)) omg;have hP:=Jc9 [] 5 s g e kids omg;rw [hpt,hxm] at hin;(refine bgo Tryz.func67 ?_;simp only [go_sem,simprocAttr,hpl,hcl,hpt,hxm]);(repeat' (first|((refine Jqa hin ?_);simp only [go_sem,simprocAttr])|fail));refine ⟨by intro z hz';rcases Eaj.1 hz' with rfl | hz';(· rfl);exact Bp _ z hz',by omega,?_⟩;(repeat' (first|refine Jqj ?_|((first|refine Jqa ih ?_|refine Jqa hP ?_|refine Jqa hL ?_);simp only [go_sem,simprocAttr,c2,hps,l1,l2])|fail))
     all_goals rfl
    | false =>
     obtain ⟨_,_,h5,_,_⟩ | ⟨l,h6,_,hr,hg⟩:=hw
     ·rw [hpt] at h5;cases h5
     unfold nd at h6;injection h6 with q1 q2 q3 q4 q5
     subst q1;have hkk:kids.list=l:=by rw [q5,Ea]
     rw [Jkb hpt];rw [hpt] at hin;have hW:=Kel [] s g e kids x.name y omg omg (by rw [hkk];exact hr.kept _);have c2:=hpl;have c3:=hpl;have hps:=hpl;have l1:=hpl;have l2:=hpl;have hxm:=hpl;(refine bgo Tryz.func67 ?_;simp only [go_sem,simprocAttr,hpl,hcl,hpt]);(repeat' (first|((refine Jqa hin ?_);simp only [go_sem,simprocAttr])|fail));refine ⟨by intro z hz';rcases Eaj.1 hz' with rfl | hz';(· rfl);exact Bp _ z hz',by omega,?_⟩;(repeat' (first|((first|refine Jqa ih ?_|refine Jqa hW ?_);simp only [go_sem,simprocAttr])|fail))
     all_goals rfl
theorem Ww {s:List UInt8} {m:Nat} (h1:m<=s.length) (h2:∀ j,j<m->H3 s j) (h3:m<s.length->¬ H3 s m):Dm s=m:=by
 have hle:=P3 s;rcases Nat.lt_trichotomy (Dm s) m with h | h | h
 ·exact absurd (h2 _ h) (Jam omg)
 ·exact h
 ·exact absurd (Sh h) (h3 omg)
theorem J8t:∀ {s:List UInt8},(∀ c∈s,c.toNat<128)->valid s=true:=by
 intro s h;refine Jb.2 ⟨s.map fun c=>(c.toNat:Int),?_,?_⟩
 ·intro r hr;obtain ⟨c,hc,rfl⟩:=Eap.1 hr;have:=h c hc;unfold Cy;omega
 ·induction s with
  | nil=>rfl
  | cons c s ih =>
   rw [Eat,Ki,<- ih fun d hd=>h d (Eag _ hd)];have hc:=h c Eaf;have:utf (c.toNat:Int)=[c]:=by
    unfold utf;rw [Nb ⟨by omega,by omega⟩];have e:((c.toNat:Int) % 256).toNat=c.toNat:=by omega
    simp [u8of,e]
   rw [this];rfl
theorem J8x {s:List UInt8} {j:Nat} (h:H3 s j):at_ s j<128:=by
 unfold H3 letP figP at h;omega
theorem J1w {s:List UInt8} (h:(Bw s).2≠0):Bc (Bw s).1/\(Bw s).1.part=false/\s.take (Bw s).2=Bv (Bw s).1/\(Bw s).2<=s.length:=by
 have hle:=Jf2 s;unfold Bw at h ⊢;split at h
 case isFalse=>exact absurd rfl h
 rename_i h46;rw [if_pos h46];obtain ⟨r,rfl⟩:∃ r,s=46 :: r:=by
  cases s with
  | nil=>simp at h46
  | cons c r=>simp at h46;exact ⟨r,by rw [h46]⟩
 simp only [Eb1,Ebi] at h ⊢;have hwl:=P3 r;split at h
 ·rename_i hw;rw [if_pos hw];have hwd:isWd (r.take (Dm r)):=by
   refine ⟨fun e=>?_,Ww (Eai _) (fun j hj=>?_) (fun h=>absurd h (Nat.lt_irrefl _))⟩
   ·have:=congrArg List.length e;rw [Eaw,List.length_nil] at this;omega
   ·simp at hj;have:=Sh (s:=r) (j:=j) omg;unfold H3 at this ⊢;rw [Kaz omg];exact this
  refine ⟨?_,rfl,?_,by simp;omega⟩
  ·unfold Bc;rw [if_neg sm];refine ⟨rfl,J8t fun c hc=>?_⟩;obtain ⟨j,hj,rfl⟩:=Ea6 hc;simp at hj;have:=J8x (Sh (s:=r) (j:=j) omg);rw [Ql omg] at this;simpa using this
  ·unfold Bv;rw [if_neg sm,if_pos hwd,List.take_succ_cons]
 ·rename_i hw;rw [if_neg hw];split at h
  ·exact absurd rfl h
  ·rename_i hc;rw [if_neg hc];simp only [not_or,ne_eq,Ea1] at hc;obtain ⟨c1,c2,c3⟩:=hc;have hg:=Jni c1;refine ⟨?_,rfl,?_,by simp;omega⟩
   ·unfold Bc;rw [if_neg sm];exact ⟨rfl,hg.1⟩
   ·unfold Bv;rw [if_neg sm,if_neg c2,List.take_succ_cons,c3]
theorem Kfl {r:List UInt8} (h0:dgR 7 r≠[]) (h1:¬ (at_ r 0=48/\1<(dgR 7 r).length)):r.take (dgR 7 r).length=dgR 7 r/\Lib.decDigits (valD (dgR 7 r))=dgR 7 r:=by
 have hp:=Jdy 7 r;have hall:=Jc6 7 r;generalize dgR 7 r=t at *
 have hlt:0<t.length:=Ecb.2 h0;have ha0:at_ t 0=at_ r 0:=by
  rw [hp];simp only [at_,Eah];rw [Ecl omg]
 exact ⟨hp.symm,(Sa (t.length - 1) t omg hall (by rw [ha0];omega)).1⟩
theorem J4i {s:List UInt8} (h:(Ce s).2≠0):Bc (Ce s).1/\(Ce s).1.part=true/\s.take (Ce s).2=Bv (Ce s).1/\(Ce s).2<=s.length:=by
 have hle:=Zo s;have h91:s.take 1=[91]:=by
  unfold Ce at h;split at h
  ·rename_i hc;exact hc.1
  ·exact absurd rfl h
 obtain ⟨r,rfl⟩:∃ r,s=91 :: r:=by
  cases s with
  | nil=>simp at h91
  | cons c r=>simp at h91;exact ⟨r,by rw [h91]⟩
 obtain ⟨g1,g2,g3,g4⟩:=J2k h;have hf:=Jle g1 g2 g3 g4;have hlen:=Jd2 7 r;rw [hf];rw [hf] at hle;refine ⟨?_,rfl,?_,hle⟩
 ·unfold Bc;rw [if_pos rfl];exact ⟨rfl,by simp only;omega,by simp only;omega⟩
 ·unfold Bv;rw [if_pos rfl];simp only [Lib.itoa_nonneg];obtain ⟨hq,hcan⟩:=Kfl g1 g2;rw [hcan,List.take_succ_cons];congr 1;rw [Ea8,hq,g4];rfl
theorem Kar {s:List UInt8} {i:Nat} (hi:0<i) (h:(Ee s i).2≠0):Bc (Ee s i).1/\(s.drop i).take (Ee s i).2=Bv (Ee s i).1:=by
 unfold Ee at h ⊢;split at h
 ·rename_i hf;rw [if_pos hf];have:=J1w hf;exact ⟨this.1,this.2.2.1⟩
 ·rename_i hf;rw [if_neg hf,if_neg omg];rw [if_neg omg] at h;have:=J4i h;exact ⟨this.1,this.2.2.1⟩
theorem J3d:∀ (f:Nat) (s:List UInt8) (i:Nat) (p:List Step),0<i->i<=s.length->p.length<=20->∃ q,(Fl s f i p).1=p ++ q/\(∀ x∈q,Bc x)/\(Fl s f i p).1.length<=20/\s.drop i=Br q ++ s.drop (Fl s f i p).2/\(Fl s f i p).2<=s.length
 | 0,s,i,p,_,hi,hp=>⟨[],by simp [Fl],by simp,by simpa [Fl] using hp,by simp [Fl,Br],by simpa [Fl] using hi⟩
 | f+1,s,i,p,h0,hi,hp=>by
  rw [Fl];split
  ·rename_i hc;obtain ⟨c1,c2,c3⟩:=hc;obtain ⟨g1,g2⟩:=Kar h0 c3;have hle:=Jzk hi;obtain ⟨q,k1,k2,k3,k4,k5⟩:=J3d f s (i+(Ee s i).2) (p ++ [(Ee s i).1]) omg hle (by simp;omega);refine ⟨(Ee s i).1 :: q,by rw [k1];simp,fun x hx=>?_,k3,?_,k5⟩
   ·rcases Eaj.1 hx with rfl | hx
    ·exact g1
    ·exact k2 x hx
   ·have e:Br ((Ee s i).1 :: q)=Bv (Ee s i).1 ++ Br q:=rfl;rw [e,<- g2,Ea2,<- k4,<- Ebg,Ebl]
  ·exact ⟨[],by simp,by simp,hp,by simp [Br],hi⟩
theorem Kb0 {s:List UInt8} (h:(Je s).2.2=0):(Je s).2.1=0/\E9 (Je s).1/\Hy (Je s).1=s:=by
 unfold Je at h ⊢;by_cases h1:s=[46]
 ·rw [if_pos h1];exact ⟨rfl,⟨by simp,by simp⟩,by rw [h1];rfl⟩
 ·rw [if_neg h1] at h ⊢;split at h
  ·cases h
  ·rename_i hc;rw [if_neg hc];simp only [not_or,Nat.not_lt] at hc;obtain ⟨c1,c2⟩:=hc;refine ⟨rfl,?_⟩;simp only;unfold Mp at c1 c2 ⊢;rw [Fl] at c1 c2 ⊢;split at c2
   ·rename_i hd;rw [if_pos hd] at c1 ⊢;obtain ⟨d1,_,d3⟩:=hd;have hle:=Jzk (s:=s) (i:=0) (Eav _);obtain ⟨q,k1,k2,k3,k4,k5⟩:=J3d s.length s (0+(Ee s 0).2) ([] ++ [(Ee s 0).1]) omg hle sm;have hend:(Fl s s.length (0+(Ee s 0).2) ([] ++ [(Ee s 0).1])).2=s.length:=by omega
    rw [hend,List.drop_length,Eaz] at k4;rw [k1] at k3 ⊢;simp only [List.nil_append,List.cons_append,Ebk] at *
    unfold Ee at d3 k4 k3 ⊢;simp only [Ebi] at d3 k4 k3 ⊢;by_cases hf:(Bw s).2≠0
    ·rw [if_pos hf] at k4 k3 ⊢;obtain ⟨f1,f2,f3,_⟩:=J1w hf;refine ⟨⟨k3,fun x hx=>?_⟩,?_⟩
     ·rcases Eaj.1 hx with rfl | hx
      ·exact f1
      ·exact k2 x hx
     ·unfold Hy;simp only;rw [if_neg (by rw [f2];simp)];have e:Br ((Bw s).1 :: q)=Bv (Bw s).1 ++ Br q:=rfl;rw [e,<- f3,<- k4,Ebl]
    ·rw [if_neg hf,if_pos trivial] at d3 k4 k3 ⊢;split at d3
     ·rename_i hp;rw [if_pos hp] at k4 k3 ⊢;obtain ⟨p1,p2⟩:=hp;obtain ⟨f1,f2,f3,_⟩:=J4i p2;obtain ⟨r,rfl⟩:∃ r,s=46 :: r:=by
       cases s with
       | nil=>simp at p1
       | cons c r=>simp at p1;exact ⟨r,by rw [p1]⟩
      simp only [Eb1,Ebi] at *
      refine ⟨⟨k3,fun x hx=>?_⟩,?_⟩
      ·rcases Eaj.1 hx with rfl | hx
       ·exact f1
       ·exact k2 x hx
      ·unfold Hy;simp only;rw [if_pos f2];have e:Br ((Ce r).1 :: q)=Bv (Ce r).1 ++ Br q:=rfl;rw [e,<- f3,<- k4,Ebl]
     ·exact absurd rfl d3
   ·simp at c2
theorem Kbt {s:List UInt8} (h:(Je s).2.2≠0):(Je s).2.2=1/\(Je s).1=[]/\(Je s).2.1<=s.length:=by
 unfold Je at h ⊢;by_cases h1:s=[46]
 ·rw [if_pos h1] at h;exact absurd rfl h
 ·rw [if_neg h1] at h ⊢;split at h
  ·rename_i hc;rw [if_pos hc];refine ⟨rfl,rfl,?_⟩;have key:∀ (f i:Nat) (p:List Step),i<=s.length->(Fl s f i p).2<=s.length:=by
    intro f
    induction f with
    | zero=>intro i p hi;exact hi
    | succ f ih =>
     intro i p hi;rw [Fl];split
     ·exact ih _ _ (Jzk hi)
     ·exact hi
   exact key _ _ _ (Eav _)
  ·exact absurd rfl h
def Ih (v:List Node):Bool:=v.all fun n=>decide (n.s.length<=200) && decide (n.name.length<=200)
noncomputable def fewB (v:List Node) (m:Nat):Bool:=decide (v.length<=m) && (Ih v && Jw v)
structure EFit (n:Node):Prop where
 s:n.s.length<=9223372036854775807
 name:n.name.length<=9223372036854775807
 e0:-9223372036854775808<=n.e
 e1:n.e<=9223372036854775807
theorem Jbf {v:List Node} {i:Nat} {n:Node} (h:v[i]? = some n):Ih (v.take (i+1))=(Ih (v.take i) && (decide (n.s.length<=200) && decide (n.name.length<=200))):=by
 unfold Ih;rw [Ea8,h,List.all_append];simp
theorem Y1 {v:List Node} {i:Nat} {n:Node} (h:v[i]? = some n) (hn:¬ (n.s.length<=200/\n.name.length<=200)):Ih v=false:=by
 unfold Ih;rw [List.all_eq_false];exact ⟨n,Eae h,by simpa using hn⟩
theorem Ln (v:List Node) (m:Nat) (hm':m<=1000) (hv:v.length<=9223372036854775807) (hf:∀ n∈v,EFit n):Det cx 27 [.p (.sl (valL v)),.p (.int .i64 m)] [] (.p (.bool (fewB v m))) []:=by
 by_cases hl:v.length<=m
 ·have c0:((m:Int)<(v.length:Int))=False:=eq_false omg;(refine bgo Tryz.func27 ?_;simp only [go_sem,simprocAttr,A7,c0]);refine SWP.loop (fun i:Nat=>⟨Ba 34 [(0,.p (.sl (valL v))),(1,.p (.int .i64 m)),(5,.p (.int .i64 i))],[]⟩) (fun i=>i<=v.length/\Ih (v.take i)=true) (fun i=>v.length - i) 0 Jqc ⟨Eav _,rfl⟩ ?_;rintro i ⟨h1,h2⟩;by_cases hi:¬ i<v.length
  ·have c1:((i:Int)<(v.length:Int))=False:=eq_false omg;rw [Ead omg] at h2;have hfit:∀ n∈v,NodeFit n:=fun n hn=>by
    have h3:=h2;unfold Ih at h3;have:=Ebw.1 h3 n hn;simp only [Ebb,decide_eq_true_eq] at this;exact ⟨by omega,by omega,(hf n hn).e0,(hf n hn).e1⟩
   have hg:=c1;have w1:=c1;(refine lws ?_;simp only [go_sem,simprocAttr,A7,c1]);(repeat' (first|((refine Jqa (Jp v omg hfit) ?_);simp only [go_sem,simprocAttr])|fail));unfold fewB;rw [decide_eq_true hl,h2];simp
  ·have hi:=Ea1.1 hi;have c1:((i:Int)<(v.length:Int))=True:=eq_true omg;obtain ⟨n,hn⟩:∃ n,v[i]? = some n:=⟨_,Eaa hi⟩
   have hg:=U5 hn;have w1:=wj1 (i:=i) omg;have hfn:=hf n (Eae hn);have hsn:=hfn.s;have hnn:=hfn.name;(refine lws ?_;simp only [go_sem,simprocAttr,A7,c1,hg,w1]);(repeat' (apply iteI <;> intro h))
   all_goals first
    | (
     refine ⟨i+1,⟨by omega,?_⟩,by omega,Jqc⟩;rw [Jbf hn,h2];simp;omega)
    | (
     unfold fewB;rw [Y1 hn omg];simp)
 ·have c0:((m:Int)<(v.length:Int))=True:=eq_true omg;have c1:=c0;have hg:=c0;have w1:=c0;(refine bgo Tryz.func27 ?_;simp only [go_sem,simprocAttr,A7,c0]);unfold fewB;rw [decide_eq_false hl];simp
theorem Jnl {v:List Node} {m:Nat}:fewB v m=true ↔ v.length<=m/\(∀ n∈v,n.s.length<=200/\n.name.length<=200)/\∃ t,okT t/\v=t.enc []:=by
 unfold fewB Ih;rw [Ebb,Ebb,decide_eq_true_eq,Iq,Ebw];simp only [Ebb,decide_eq_true_eq];rfl
def tOne:Tree:=.mk 2 [] false 0 .nil
def tTwo:Tree:=.mk 5 [] false 0 (.cons [] tOne (.cons [] tOne .nil))
def tObj:Tree:=.mk 6 [] false 0 (.cons [97] tTwo .nil)
def tSet:Tree:=.mk 6 [] false 0 (.cons [97] tOne .nil)
def ndL (k m:Int) (nm:List UInt8):List PV:=[.int .i64 k,.int .i64 m,.str nm,.str [],.bool false,.int .i64 0]
theorem vOne:valL (tOne.enc [])=[ndL 2 0 []]:=by simp [tOne,A6,Bl,valL,Node.cells,ndL,Forest.len]
theorem vSet:valL (tSet.enc [])=[ndL 6 1 [],ndL 2 0 [97]]:=by simp [tSet,tOne,A6,A0,Bl,valL,Node.cells,ndL,Forest.len]
def pA:List Step:=[⟨false,[97],0⟩,⟨true,[],0⟩,⟨false,[98,32,99],0⟩]
structure ValFit (v:List Node):Prop where
 len:v.length<=140737488355328
 node:∀ n∈v,EFit n
theorem Fw {v:List Node} (hv:ValFit v) {m:Nat} (h:fewB v m=true):∃ t,okT t/\v=t.enc []/\(t.enc []).length<=m/\FitT t:=by
 obtain ⟨h1,h2,t,h3,rfl⟩:=Jnl.1 h;exact ⟨t,h3,rfl,h1,fun n hn=>⟨by have:=(h2 n hn).1;omega,by have:=(h2 n hn).2;omega,(hv.node n hn).e0,(hv.node n hn).e1⟩⟩
end Go.LX
namespace Go.LX
open Go Go.Proofs Go.RowKit Go.ChangeShapes Go.WideShapes Go.ChangeAt
section
variable {H:Type} {enc:TypeId×Value->H} {P:Program}
theorem Kz (hl:laidOutB P=true) {W W':World} {sp:Nat->Bool}:∀ (ts:List TypeId) (vs:List Value) (ds:List (DataW H)) (ps:List MemPlace),(∀ t∈ts,P.readableRec t=true/\t<P.types.size) ->
  DataW.TrodAll enc P W 0 (fun _=>true) true ts vs ds ps->(∀ p∈ps,W.sameAt W' p)->(∀ p∈ps,sp p.block=true)->DataW.TrodAll enc P W' 0 sp true ts vs ds ps
 | [],vs,ds,ps,_,h,_,_=>by
  obtain ⟨rfl,rfl,rfl⟩:=trodAll_nil h;exact trodAll_mk0
 | t :: ts,vs,ds,ps,hr,h,hs,hb=>by
  obtain ⟨v,vs',d,ds',p,q,rfl,rfl,rfl,h0,h1⟩:=trodAll_cons h;have ht:=hr t Eaf;exact trodAll_cons_mk (WideElems.Trod_stays hl ht.1 ht.2 h0 (fun x hx=>hs x (Eb7 _ hx)) fun x hx=>hb x (Eb7 _ hx))
   (Kz hl ts vs' ds' q (fun u hu=>hr u (Eag _ hu)) h1 (fun x hx=>hs x (Eb8 _ hx)) fun x hx=>hb x (Eb8 _ hx))
theorem M7 (hl:laidOutB P=true) {f:Func} {s:ChangeSpec} {b:TypeId} {W W':World} {args:Array Value} {ds gs:List (DataW H)} {before:List MemPlace} (hv:s.vars=[])
  (hrd:∀ t∈f.params.toList,P.readableRec t=true/\t<P.types.size) (hrt:f.resultTypes = #[b]) (hb:P.underlying b=some .bool)
  (hW:DataW.Whole enc P f.params.toList s.vars false W args.toList ds gs before) (hfn:s.fn H ds = { results:=[.lit (.bool true)],args:=ds }) (hbel:Below W.heap.size W W') :
  s.post enc P f false true false false W args (.bool true) W':=by
 have hW':=hW;have hlt:∀ p∈before,p.block<W.heap.size:=fun p hp=>hW'.lt p hp
 obtain ⟨p,q,hA,hV,rfl,hfz,hnd⟩:=hW;rw [hv] at hV;obtain ⟨rfl,rfl⟩:=trodVars_none hV;simp only [Eaz] at hlt;refine ⟨ds,[],p ++ [],[],p,[],hW',?_,?_,?_,hbel.frame _,fun h=>by cases h⟩
 ·rw [Eaz,hfn,hrt];exact trodAll_mk1 (shut_bool hb _)
 ·rw [Eaz,hfn];exact Kz hl _ _ _ _ hrd hA (fun x hx=>hbel.same (hlt x hx)) fun x hx=>by simpa using hlt x hx
 ·rw [Eaz,hfn,hv];rfl
end
end Go.LX
namespace Go.LX
open Go Go.Proofs Go.RowKit Go.ChangeShapes Go.WideShapes Go.ChangeAt Go.Lib
def Ja (W:World) (b:Nat):Prop:=b<W.heap.size
theorem Jkw {α:Type} {Q:Nat->α->Prop}:∀ n,(∀ i,i<n->∃ x,Q i x)->∃ p:List α,p.length=n/\∀ i x,p[i]? = some x->Q i x
 | 0,_=>⟨[],rfl,fun i x h=>by simp at h⟩
 | n+1,h=>by
  obtain ⟨p,hp,hq⟩:=Jkw n fun i hi=>h i omg
  obtain ⟨x,hx⟩:=h n omg;refine ⟨p ++ [x],by simp [hp],fun i y hy=>?_⟩;rcases Nat.lt_trichotomy i n with hi | hi | hi
  ·rw [Eaq omg] at hy;exact hq i y hy
  ·subst hi;rw [Ean omg,hp] at hy;simp at hy;subst hy;exact hx
  ·rw [Ec1 (by simp [hp];omega)] at hy;cases hy
theorem J8 {H:Type} {P:Program} {e:TypeId} {d:DataW H} {n:Nat}:∀ {l:List (DataW H)},d∈l->n∈d.weights P e->n∈DataW.weightsAll P e l
 | [],h,_=>by cases h
 | a :: l,h,hn=>by
  simp only [DataW.weightsAll,Eau];rcases Eaj.1 h with rfl | h
  ·exact .inl hn
  ·exact .inr (J8 h hn)
theorem Jka (b off k:Nat):(⟨b,off,none⟩:Addr).add k=⟨b,off+k,none⟩:=by
 unfold Addr.add;split
 ·rename_i h;subst h;rfl
 ·rfl
theorem openIn {α H:Type} {enc:TypeId×Value->H} {P:Program} {w:World} {t e:TypeId} {c:Nat} (vals:α->List Value) (cells:α->List PV) (Good:α->Prop)
  (ht:P.underlying t=some (.slice e)) (hc:P.cellsOf e=c) (hc0:0<c) (hb:0<P.bytesOf e) (hvl:∀ x,(vals x).length=c) (hcl:∀ x,(cells x).length=c) (hsc:∀ x,∀ p∈cells x,p.scalar=true)
  (hrep:∀ x j p,Good x->(cells x)[j]? = some p->PRep w (Ja w) ((vals x).getD j undef) p)
  (each:∀ (fuel:Nat) (cs:List Value) (y:DataW H×List MemPlace),DataW.trod enc P w 0 (fun _=>true) true fuel e cs=some y->(∀ n∈y.1.weights P e,n<=reachBytes)->∃ x,Good x/\cs=vals x)
  {cs:List Value} {fuel:Nat} {x:DataW H×List MemPlace} (h:DataW.trod enc P w 0 (fun _=>true) true fuel t cs=some x) (hz:∀ n∈x.1.weights P t,n<=reachBytes) :
  ∃ (v:Value) (p:List α),cs=[v]/\p.length<=140737488355328/\(∀ a∈p,Good a)/\PRep w (Ja w) v (.sl (p.map cells)):=by
 rcases Go.Deep.open_slice ht h with ⟨rfl,rfl⟩ | ⟨a,len,cap,m,n,D,Pl,rfl,hb0,hl,hm,hmm,rfl,hx⟩
 ·exact ⟨_,[],rfl,by simp,by simp,PRep.slNil⟩
 ·simp only [if_true] at hmm;subst hmm;by_cases h0:m=0
  ·subst h0;obtain rfl:len=0:=by omega
   exact ⟨_,[],rfl,by simp,by simp,PRep.slNil⟩
  obtain ⟨blk,off,spot⟩:=a;obtain ⟨cs0,hc1,_⟩:=hx 0 omg;have h00:=(World.cells?_some hc1).2.2 0 omg;have hl0:=(World.cells?_some hc1).2.1;have hcell:(w.cell? ⟨blk,off,spot⟩).isSome=true:=by
   have e1:((⟨blk,off,spot⟩:Addr).add (0 * P.cellsOf e)).add 0=⟨blk,off,spot⟩:=by rw [Ecs];rfl
   rw [e1] at h00;rw [h00,Eaa omg];rfl
  have hsp:spot=none:=by
   unfold World.cell? at hcell;cases spot with
   | none=>rfl
   | some s=>split at hcell <;> simp at hcell
  subst hsp;have hblk:blk<w.heap.size:=by
   rcases Edk blk w.heap.size with h | h
   ·exact h
   ·unfold World.cell? at hcell;simp only [Array.getElem?_eq_none h] at hcell;simp at hcell
  have hreach:reachBytes<=140737488355328:=by decide
  have hlen:len<=140737488355328:=by
   have h1:=hz ((len+(m - len)) * P.bytesOf e) (by simp [DataW.weights,ht]);have h2:len<=(len+(m - len)) * P.bytesOf e:=by
    have:(len+(m - len)) * 1<=(len+(m - len)) * P.bytesOf e:=Nat.mul_le_mul_left _ hb;omega
   omega
  obtain ⟨p,hp,hq⟩:=Jkw (Q:=fun i x=>Good x/\w.cells? 0 ((⟨blk,off,none⟩:Addr).add (i * c)) c=some (vals x)) len fun i hi=>by
   obtain ⟨cs',h1,h2⟩:=hx i omg;rw [hc] at h1;obtain ⟨x,hg,rfl⟩:=each n cs' _ h2 (fun k hk=>hz k (by
    simp only [DataW.weights,ht,Eaj,Eau];exact .inr (.inl (J8 (Eap.2 ⟨i,List.mem_range.2 hi,rfl⟩) hk))))
   exact ⟨x,hg,h1⟩
  refine ⟨_,p,rfl,by omega,fun a ha=>?_,?_⟩
  ·obtain ⟨i,hi⟩:=Ebt ha;exact (hq i a hi).1
  ·have e2:len=(p.map cells).length:=by simp [hp]
   have key:=PRep.sl (w:=w) (Im:=Ja w) blk off m c (p.map cells) (by rw [<- e2];exact hl) hblk (fun i j=>match p[i]? with | some x=>(vals x).getD j undef | none=>undef)
    (fun r hr=>by obtain ⟨x,_,rfl⟩:=Eap.1 hr;exact hcl x)
    (fun r hr=>by obtain ⟨x,_,rfl⟩:=Eap.1 hr;exact hsc x)
    (fun i hi j hj=>by
     rw [<- e2] at hi;obtain ⟨x,hx'⟩:∃ x,p[i]? = some x:=⟨_,Eaa omg⟩
     have h1:=(World.cells?_some (hq i x hx').2).2.2 j hj;rw [Go.Deep.add_add,Jka,<- Ebx] at h1;rw [h1,hx'];have h3:j<(vals x).length:=by rw [hvl];exact hj
     simp [Eah,Eaa h3])
    (fun i r j q hr hq'=>by
     rw [Eam] at hr;cases hx':p[i]? with
     | none=>rw [hx'] at hr;cases hr
     | some x =>
      rw [hx'] at hr;obtain rfl:=Ea3 hr;exact hrep x j q (hq i x hx').1 hq')
   rw [<- e2] at key;exact key
theorem Xx {α H:Type} {enc:TypeId×Value->H} {P:Program} {w:World} {t e:TypeId} {c:Nat} (vals:α->List Value) (cells:α->List PV) (Good:α->Prop)
  (ht:P.underlying t=some (.slice e)) (hc:P.cellsOf e=c) (hb:0<P.bytesOf e) (hvl:∀ x,(vals x).length=c) (hcl:∀ x,(cells x).length=c) (hsc:∀ x,∀ p∈cells x,p.scalar=true)
  (hrep:∀ (Im:Nat->Prop) x j p,(cells x)[j]? = some p->PRep w Im ((vals x).getD j undef) p)
  (each:∀ (fuel:Nat) (cs:List Value) (y:DataW H×List MemPlace),DataW.trod enc P w 0 (fun _=>true) true fuel e cs=some y->(∀ n∈y.1.weights P e,n<=reachBytes)->∃ x,Good x/\cs=vals x)
  {b:Nat} {v:Value} (hok:Cell.okWide P w .any b t v) {fuel:Nat} {x:DataW H×List MemPlace} (h:DataW.trod enc P w 0 (fun _=>true) true fuel t [v]=some x) (hz:∀ n∈x.1.weights P t,n<=reachBytes) (hc0:0<c:=by decide) :
  ∃ p:List α,p.length<=140737488355328/\(∀ a∈p,Good a)/\PRep w (Ja w) v (.sl (p.map cells)):=by
 obtain ⟨v',p,e1,h1,h2,h3⟩:=openIn vals cells Good ht hc hc0 hb hvl hcl hsc (fun x j p _ h=>hrep _ x j p h) each h hz;cases e1;exact ⟨p,h1,h2,h3⟩
open Go.Proofs.YtaghbedfogiopaaGreatDoor
theorem Mc {P:Program} {w:World} {x:String×DataW Unit} {l:List (String×DataW Unit)} (h:laidMet P (x :: l) w):laidMet P l w:=by
 obtain ⟨ps,h1,h2,h3⟩:=h;obtain ⟨n,d⟩:=x;obtain ⟨g,t,cs,fuel,p,q,_,_,_,_,h5,rfl⟩:=h1;exact ⟨q,h5,(Ecc.1 h2).2.1,fun b off hb=>h3 b off (Eb8 _ hb)⟩
theorem Jc3 (x:ByteArray):(⟨⟨x.data.toList⟩⟩:ByteArray)=x:=by rcases x with ⟨⟨l⟩⟩;rfl
theorem T8 (s:ByteArray):s.data.toList.length=s.size:=by simp
theorem Jci {P:Program} {w:World} {sp:Nat->Bool} {t:TypeId} {cs:List Value} {nm:String} {d:DataW Unit} {p:List MemPlace} {u:TypeDesc} (ht:P.underlying t=some u) (hu:∃ m,u=.interface m) :
  ∀ {fuel:Nat},DataW.trod (fun _=>()) P w 0 sp false fuel t cs=some (.iface nm d,p)->∃ te pe,cs=[.iface te pe]
 | 0,h=>by simp [DataW.trod] at h
 | fuel+1,h=>by
  obtain ⟨m,rfl⟩:=hu;rcases cs with _ | ⟨c,_ | ⟨c2,cs⟩⟩
  ·simp [DataW.trod,ht] at h
  ·cases c <;> first | exact ⟨_,_,rfl⟩ | (simp [DataW.trod,ht] at h;done)
  ·simp [DataW.trod,ht] at h
theorem Xq {w:World} {n:String} {nm:String} {d:DataW Unit} {g:Nat} {t:TypeId} {u:TypeDesc} (h:VarReads Tryz.prog w n (.iface nm d)) (hg:Tryz.prog.globalNamed n=some g) (ht:(Tryz.prog.globals[g]?).map (·.type)=some t) (hu:Tryz.prog.underlying t=some u) (hi:∃ m,u=.interface m):Jk8 g w:=by
 obtain ⟨g',t',cs,fuel,p,h1,h2,h3,h4⟩:=h;obtain rfl:=Ea3 (hg.symm.trans h1);obtain rfl:=Ea3 (ht.symm.trans h2);obtain ⟨te,pe,e⟩:=Jci hu hi h4;refine ⟨te,pe,?_⟩;rw [World.var?_cell hg h3 0,<- Ecd,e];rfl
theorem gOwn:ownKnob Tryz.prog.godebug=none:=kr
theorem L2:laidOutB Tryz.prog=true:=kr
theorem gFirst:Go.Pinned.utf8First=firstData:=kr
theorem u8T:U8Types Tryz.prog Tryz_lays197_renX:=⟨by kernel_rfl,by kernel_rfl,by kernel_rfl,by kernel_rfl⟩
theorem u8X:U8Extra Tryz.prog Tryz_lays197_renX:=⟨by kernel_rfl,by kernel_rfl,by kernel_rfl,by kernel_rfl,by kernel_rfl,by kernel_rfl,by kernel_rfl⟩
def tz64:List Int:=Lib.deBruijn64tab.map fun n:Nat=>(n:Int)
theorem Kv {W:World} {n:String} {d:DataW Unit} {g:Nat} (h:VarReads Tryz.prog W n d) (hg:Tryz.prog.globalNamed n=some g):g<W.heap.size:=by
 obtain ⟨g',t',cs,fuel,p,h1,_,h3,_⟩:=h;obtain rfl:=Ea3 (hg.symm.trans h1);unfold World.var? at h3;rw [hg] at h3;simp only [Option.bind_some] at h3;rcases Edk g W.heap.size with h | h
 ·exact h
 ·rw [Array.getElem?_eq_none h] at h3;cases h3
theorem Jdp {W:World} (h:laidMetH Tryz.prog Rows.evalTellsRow.laid W):QuoteG W (Ja W):=by
 have h0:laidMet Tryz.prog Rows.evalTellsRow.laid W:=h;have h1:=Mc h0;have h2:=Mc h1;have r1:VarReads Tryz.prog W "unicode/utf8.first" Rows.laid_unicode_utf8_first:=laidMet.reads h0 (by simp [Rows.evalTellsRow]);have r2:VarReads Tryz.prog W "unicode/utf8.acceptRanges" Rows.laid_unicode_utf8_acceptRanges:=laidMet.reads h0 (by simp [Rows.evalTellsRow]);have r3:VarReads Tryz.prog W "strconv.ErrSyntax" Rows.laid_strconv_ErrSyntax:=laidMet.reads h0 (by simp [Rows.evalTellsRow]);have r4:VarReads Tryz.prog W "strconv.ErrRange" Rows.laid_strconv_ErrRange:=laidMet.reads h0 (by simp [Rows.evalTellsRow]);have r5:VarReads Tryz.prog W "math/bits.deBruijn64tab" Rows.laid_math_bits_deBruijn64tab:=laidMet.reads h0 (by simp [Rows.evalTellsRow]);have r6:VarReads Tryz.prog W "internal/strconv.uint64pow10" Rows.laid_internal_strconv_uint64pow10:=laidMet.reads h0 (by simp [Rows.evalTellsRow]);refine ⟨?_,?_,?_,?_,?_,Kv r1 kr,Kv r2 kr,Kv r3 kr,Kv r4 kr,Kv r5 kr,Kv r6 kr⟩
 ·have f1:VarReads Tryz.prog W "unicode/utf8.first" firstData:=by
   rw [<- gFirst];exact laidMet.reads h0 (by simp [Rows.evalTellsRow,Rows.laid_unicode_utf8_first])
  have f2:VarReads Tryz.prog W "unicode/utf8.acceptRanges" acceptData:=laidMet.reads h0 (by
   rw [show (acceptData:DataW Unit)=Rows.laid_unicode_utf8_acceptRanges by kernel_rfl];simp [Rows.evalTellsRow])
  exact utf8Tabs_of_readsT u8T u8X f1 f2
 ·exact Xq r3 kr kr Tryz.underlying187 ⟨_,rfl⟩
 ·exact Xq r4 kr kr Tryz.underlying187 ⟨_,rfl⟩
 ·have ht:TabIs Tryz.prog W "math/bits.deBruijn64tab" .u8 tz64:=tabIs_of_head (g:=7) (t:=260) (e:=5) (n:=64) kr kr kr kr kr kr (k:=.u8) (zs:=tz64) h1;intro j hj;have:=ht.cell (g:=7) kr j (by simpa [tz64] using hj);rw [this];simp [tz64,Eah,hj]
 ·exact tabIs_of_head (g:=2) (t:=229) (e:=191) (n:=20) kr kr kr kr kr kr (k:=.u64) (zs:=Lib.pow10Tab) h2
def Yw (d:DataW Unit):List Value:=match d with
 | .agg l=>l.flatMap fun x=>match x with
  | .lit (.int k n)=>[Value.int k n]
  | .agg l'=>l'.flatMap fun y=>match y with
   | .lit (.int k n)=>[Value.int k n]
   | _=>[]
  | _=>[]
 | _=>[]
noncomputable def D9 (os:Os):World :=
 let N:=(World.settled Tryz.prog os).heap.size;let w0:=World.holding Tryz.prog os ⟨#[
  .cells #[.string ⟨#[118,97,108,117,101,32,111,117,116,32,111,102,32,114,97,110,103,101]⟩] 264,.cells #[.string ⟨#[105,110,118,97,108,105,100,32,115,121,110,116,97,120]⟩] 264],#[],[]⟩
 let put (h:Array Obj) (g:Nat) (cs:Array Value):Array Obj:=h.modify g fun
  | .cells _ t frozen=>.cells cs t frozen
  | o=>o
 let h1:=put w0.heap 6 (Yw Rows.laid_math_bits_deBruijn32tab).toArray;let h2:=put h1 7 (Yw Rows.laid_math_bits_deBruijn64tab).toArray;let h3:=put h2 2 (Yw Rows.laid_internal_strconv_uint64pow10).toArray;let h4:=put h3 1 (Yw Rows.laid_unicode_utf8_acceptRanges).toArray;let h5:=put h4 5 #[.iface 262 (.pointer (some ⟨N,0,none⟩))];let h6:=put h5 4 #[.iface 262 (.pointer (some ⟨N+1,0,none⟩))];let h7:=put h6 0 (Yw Rows.laid_unicode_utf8_first).toArray
 { w0 with heap:=h7 }
theorem Ma (os:Os) (args:Array Value):laidMet Tryz.prog Rows.evalTellsRow.laid ((D9 os).forCall (fun _ _=>0) ⟨#[],args,[]⟩).memory :=
 laidMet_of_run' 8 kr kr
theorem Kj0 {P:Program} {W:World} {r:Reach} {b:Nat} {t:TypeId} {v:Value} (ht:P.underlying t=some .string) (h:Cell.okWide P W r b t v):∃ s:List UInt8,v=.string ⟨⟨s⟩⟩/\s.length<=9223372036854775807:=by
 simp only [Cell.okWide,Cell.ok,ht] at h;cases v with
 | string s =>
  refine ⟨s.data.toList,by rw [Jc3],?_⟩;have h':(s.size:Int)<=IntKind.i64.max:=h;have e:IntKind.i64.max=9223372036854775807:=rfl;have e2:s.data.toList.length=s.size:=T8 s;omega
 | _=>simp at h
theorem Kjr {W:World} {b:Nat} {v:Value} (h:Value.okWide Tryz.prog W .any b 9 v):∃ s:List UInt8,v=.string ⟨⟨s⟩⟩/\s.length<=9223372036854775807:=by
 simp only [Value.okWide,Tryz.underlying9] at h;exact Kj0 Tryz.underlying9 h
theorem trod_string {H:Type} {enc:TypeId×Value->H} {P:Program} {w:World} {base:Nat} {sp:Nat->Bool} {held:Bool} {t:TypeId} {s:List UInt8} {d:DataW H} {p:List MemPlace} (ht:P.underlying t=some .string) (h:DataW.Trod enc P w base sp held t (.string ⟨⟨s⟩⟩) d p):d=.lit (.string s):=by
 obtain ⟨fuel,h⟩:=h;cases fuel with
 | zero=>simp [DataW.trod] at h
 | succ f =>
  simp only [DataW.trod,ht,Value.cells] at h;split at h
  ·simp at h;exact h.1.symm
  ·cases h
theorem cBool:Tryz.prog.cellsOf 4=1:=kr
theorem cStr:Tryz.prog.cellsOf 9=1:=kr
theorem cInt:Tryz.prog.cellsOf 3=1:=kr
theorem Kf7:Tryz.prog.cellsOf 36=6:=kr
theorem bNode:0<Tryz.prog.bytesOf 36:=by decide +kernel
def Step.vals (x:Step):List Value:=[.bool x.part,.string ⟨⟨x.name⟩⟩,.int .i64 x.n]
def Node.vals (n:Node):List Value:=[.int .i64 n.kind,.int .i64 n.many,.string ⟨⟨n.name⟩⟩,.string ⟨⟨n.s⟩⟩,.bool n.neg,.int .i64 n.e]
theorem Jly {H:Type} {enc:TypeId×Value->H} {w:World} (fuel:Nat) (cs:List Value) (y:DataW H×List MemPlace) (h:DataW.trod enc Tryz.prog w 0 (fun _=>true) true fuel 36 cs=some y) (_:∀ n∈y.1.weights Tryz.prog 36,n<=reachBytes) :
  ∃ x:Node,EFit x/\cs=x.vals:=by
 obtain ⟨xs,n,_,rfl,hl,hlen,hf⟩:=DataW.trod_struct Tryz.underlying36 h;rw [Kf7] at hl
 match xs,hlen,cs,hl with
 | [y0,y1,y2,y3,y4,y5],_,[a0,a1,a2,a3,a4,a5],_ =>
  have g0:=hf 0 _ rfl;have g1:=hf 1 _ rfl;have g2:=hf 2 _ rfl;have g3:=hf 3 _ rfl;have g4:=hf 4 _ rfl;have g5:=hf 5 _ rfl;simp only [cBool,cStr,cInt,Ebi,Eb1,List.take_succ_cons,List.take_zero,List.getElem?_cons_zero,List.getElem?_cons_succ] at g0 g1 g2 g3 g4 g5;obtain ⟨x0,e0,rfl,_⟩:=DataW.trod_int Tryz.underlying3 g0;obtain ⟨x1,e1,rfl,_⟩:=DataW.trod_int Tryz.underlying3 g1;obtain ⟨x2,e2,rfl,z2⟩:=DataW.trod_string Tryz.underlying9 g2;obtain ⟨x3,e3,rfl,z3⟩:=DataW.trod_string Tryz.underlying9 g3;obtain ⟨x4,e4,rfl⟩:=DataW.trod_bool Tryz.underlying4 g4;obtain ⟨x5,e5,rfl,z5⟩:=DataW.trod_int Tryz.underlying3 g5;cases e0;cases e1;cases e2;cases e3;cases e4;cases e5;have hm:maxLen=9223372036854775807:=by decide
  have k1:IntKind.i64.min = -9223372036854775808:=by decide
  have k2:IntKind.i64.max=9223372036854775807:=by decide
  simp only [Lit.wf,Ebb,decide_eq_true_eq,k1,k2] at z5;have s2:=T8 x2;have s3:=T8 x3;refine ⟨⟨x0,x1,x2.data.toList,x3.data.toList,x4,x5⟩,⟨?_,?_,z5.1,z5.2⟩,?_⟩
  ·show x3.data.toList.length<=_;omega
  ·show x2.data.toList.length<=_;omega
  ·simp only [Node.vals,Jc3]
theorem Ji6 (w:World) (Im:Nat->Prop) (x:Node) (j:Nat) (p:PV) (h:x.cells[j]? = some p):PRep w Im (x.vals.getD j undef) p:=by
 match j,h with
 | 0,h=>cases h;exact PRep.int _ _
 | 1,h=>cases h;exact PRep.int _ _
 | 2,h=>cases h;exact PRep.str _
 | 3,h=>cases h;exact PRep.str _
 | 4,h=>cases h;exact PRep.bool _
 | 5,h=>cases h;exact PRep.int _ _
 | j+6,h=>simp [Node.cells] at h
theorem Vt {H:Type} {enc:TypeId×Value->H} {w:World} {b:Nat} {v:Value} (hok:Cell.okWide Tryz.prog w .any b 25 v) {fuel:Nat} {x:DataW H×List MemPlace} (h:DataW.trod enc Tryz.prog w 0 (fun _=>true) true fuel 25 [v]=some x) (hz:∀ n∈x.1.weights Tryz.prog 25,n<=reachBytes) :
  ∃ p:List Node,ValFit p/\PRep w (Ja w) v (.sl (valL p)):=by
 obtain ⟨p,h1,h2,h3⟩:=Xx Node.vals Node.cells EFit Tryz.underlying25 Kf7 bNode (fun _=>rfl) (fun _=>rfl) (fun x p hp=>by simp [Node.cells] at hp;rcases hp with rfl | rfl | rfl | rfl | rfl | rfl <;> rfl) (Ji6 w) Jly hok h hz;exact ⟨p,⟨h1,h2⟩,h3⟩
theorem Jkh {P:Program} {W:World} {r:Reach} {b:Nat} {t e:TypeId} {v:Value} (ht:P.underlying t=some (.slice e)) (h:Cell.okWide P W r b t v):v.cells.toList=[v]:=by
 simp only [Cell.okWide,Cell.ok,ht] at h;cases v <;> first | rfl | (simp at h;done)
theorem J0 {H:Type} {P:Program} {ts:List TypeId} {ds:List (DataW H)} (hz:(DataW.weightsEach P ts ds).all (· <= reachBytes)=true) {j:Nat} {t:TypeId} {d:DataW H} (h1:ts[j]? = some t) (h2:ds[j]? = some d):∀ n∈d.weights P t,n<=reachBytes:=fun n hn=>by
 simpa using Ebw.1 hz n (DataW.weights_mem_each h1 h2 n hn)
theorem N3 {H:Type} {enc:TypeId×Value->H} {w:World} {b:Nat} {v:Value} {d:DataW H} {q:List MemPlace} {ts:List TypeId} {ds:List (DataW H)} (hok:Value.okWide Tryz.prog w .any b 25 v) (h:DataW.Trod enc Tryz.prog w 0 (fun _=>true) true 25 v d q)
  (hz:(DataW.weightsEach Tryz.prog ts ds).all (· <= reachBytes)=true) {j:Nat} (h1:ts[j]? = some 25) (h2:ds[j]? = some d):∃ p:List Node,ValFit p/\PRep w (Ja w) v (.sl (valL p)):=by
 simp only [Value.okWide,Tryz.underlying25] at hok;obtain ⟨fuel,h⟩:=h;rw [Jkh Tryz.underlying25 hok] at h;exact Vt hok h (J0 hz h1 h2)
theorem Jo3:Tryz.prog.cellsOf 33=1:=kr
theorem J5d {P:Program} (h:P.funcs.any Func.goes=false) (f:FuncId):P.goes f=false:=by
 unfold Program.goes;rw [h,Bool.and_false,Bool.or_false,List.any_eq_false];intro g _ hg;cases hf:P.funcs[g]? with
 | none=>rw [hf] at hg;cases hg
 | some fn =>
  rw [hf] at hg;rw [Array.any_eq_false] at h;obtain ⟨i,rfl⟩:=Ea5.1 hf;exact h g i hg
theorem goesBy_none {P:Program} (h:P.funcs.any Func.goes=false) (c:OpenClaim):false=c.goesBy P:=by
 unfold OpenClaim.goesBy Program.goesAt Program.goesFrom;have h1:(P.funcNamed c.func).any P.goes=false:=by
  cases P.funcNamed c.func with
  | none=>rfl
  | some f=>exact J5d h f
 rw [h1,Bool.false_or];split
 ·rfl
 ·symm;rw [List.any_eq_false];intro g _ hg;rw [J5d h g] at hg;cases hg
theorem noGoes:Tryz.pinned.checked.prog.funcs.any Func.goes=false:=kr
end Go.LX
namespace Go.LX
def Jr9 (s:List UInt8):List UInt8:=s.dropWhile (· == 48)
def Jqy (s:List UInt8):List UInt8:=(s.reverse.dropWhile (· == 48)).reverse
theorem Jwn {c:UInt8}:c.toNat=48 ↔ c=48:=by
 constructor
 ·intro h;exact UInt8.toNat_inj.1 (by simpa using h)
 ·intro h;subst h;rfl
theorem Jy3 (c:UInt8) (l:List UInt8):at_ (c :: l) 0=c.toNat:=by simp [at_]
theorem Jyx (l:List UInt8) (c:UInt8):at_ (l ++ [c]) l.length=c.toNat:=by simp [at_,Eah]
theorem J68 {u:List UInt8} (h:at_ u 0≠48):Jr9 u=u:=by
 cases u with
 | nil=>rfl
 | cons c l =>
  rw [Jy3] at h;have:c≠48:=fun hc=>h (Jwn.2 hc)
  simp [Jr9,List.dropWhile_cons,this]
theorem J9r (u:List UInt8):(Jr9 u).length<=u.length:=by
 exact (List.dropWhile_sublist _).length_le
theorem J6p {u:List UInt8} (h:0<u.length):∃ l c,u=l ++ [c]:=by
 have hne:u≠[]:=by intro hu;subst hu;simp at h
 exact ⟨u.dropLast,u.getLast hne,(Ece hne).symm⟩
theorem Jtd (l:List UInt8) (c:UInt8):Jqy (l ++ [c])=if c=48 then Jqy l else l ++ [c]:=by
 simp only [Jqy,List.reverse_append,List.reverse_cons,List.reverse_nil,List.nil_append,List.cons_append,List.dropWhile_cons];by_cases h:c=48
 ·simp [h]
 ·simp [h]
theorem J8u {u:List UInt8} (h0:0<u.length) (h:at_ u (u.length - 1)=48):Jqy (u.take (u.length - 1))=Jqy u:=by
 obtain ⟨l,c,rfl⟩:=J6p h0;have e:(l ++ [c]).length - 1=l.length:=by simp
 rw [e] at h ⊢;rw [Jyx,Jwn] at h;rw [Jtd,if_pos h];simp
theorem J69 {u:List UInt8} (h0:0<u.length) (h:at_ u (u.length - 1)≠48):Jqy u=u:=by
 obtain ⟨l,c,rfl⟩:=J6p h0;have e:(l ++ [c]).length - 1=l.length:=by simp
 rw [e,Jyx] at h;rw [Jtd,if_neg (fun hc=>h (Jwn.2 hc))]
theorem Jx4 (u:List UInt8):(Jqy u).length<=u.length:=by
 have:=(List.dropWhile_sublist (l:=u.reverse) (fun x=>x == 48)).length_le;simpa [Jqy] using this
theorem Kck {u:List UInt8} {n i:Nat} (h:i<n):at_ (u.take n) i=at_ u i:=by
 simp [at_,Eah,Eao,h]
theorem J3k:∀ (n:Nat) (u:List UInt8),u.length=n->0<u.length->at_ u 0≠48->0<(Jqy u).length
 | 0,u,hn,h0,_=>by omega
 | n+1,u,hn,h0,h=>by
  by_cases hl:at_ u (u.length - 1)=48
  ·have hn0:1<u.length:=by
    by_cases h1:u.length=1
    ·rw [h1] at hl;exact absurd hl h
    ·omega
   rw [<- J8u h0 hl];exact J3k n _ (by simp;omega) (by simp;omega) (by rw [Kck omg];exact h)
  ·rw [J69 h0 hl];exact h0
end Go.LX
namespace Go.LX
open Go Go.RowKit Go.Proofs Go.Lib
def J7r (c:UInt8):Bool:=decide (48<=c.toNat) && decide (c.toNat<=57)
def Jqr (s:List UInt8):Bool:=s.all J7r
def figR (r:Nat):Bool:=decide (48<=r) && decide (r<=57)
theorem J3u {n b0 b1 b2 b3:Nat} (h:128<=b0):128<=(decodeN n b0 b1 b2 b3).1:=by
 unfold decodeN
 repeat' split
 all_goals first | omega | (simp_all;done)|(simp_all;omega)
theorem J88 {s:ByteArray} {pos:Nat} (h:figR (Utf8.decode s pos).1=true):figR (s.data.toList.getD pos 0).toNat=true/\(Utf8.decode s pos).2=1:=by
 rw [decode_N] at h ⊢;by_cases hb:(s.data.toList.getD pos 0).toNat<128
 ·rw [decodeN_ascii _ _ _ _ _ hb] at h ⊢;exact ⟨h,rfl⟩
 ·have:=J3u (n:=s.data.toList.length - pos) (b1:=(s.data.toList.getD (pos+1) 0).toNat) (b2:=(s.data.toList.getD (pos+2) 0).toNat) (b3:=(s.data.toList.getD (pos+3) 0).toNat) (by omega:128<=(s.data.toList.getD pos 0).toNat);simp only [figR,Ebb,decide_eq_true_eq] at h;omega
theorem Kao {s:ByteArray} {pos:Nat} (h:figR (s.data.toList.getD pos 0).toNat=true):Utf8.decode s pos=((s.data.toList.getD pos 0).toNat,1):=by
 rw [decode_N,decodeN_ascii];simp only [figR,Ebb,decide_eq_true_eq] at h;omega
theorem J70 {s:ByteArray}:∀ (f pos:Nat),s.size<=pos+f->idxFuncFrom figR false s f pos = -1->∀ j,pos<=j->j<s.size->figR (s.data.toList.getD j 0).toNat=true
 | 0,pos,hf,_,j,h1,h2=>by omega
 | f+1,pos,hf,h,j,h1,h2=>by
  unfold idxFuncFrom at h;rw [if_pos omg] at h;split at h
  ·omega
  ·rename_i hp;have hp':figR (Utf8.decode s pos).1=true:=by simpa using hp
   obtain ⟨g1,g2⟩:=J88 hp';by_cases hj:j=pos
   ·subst hj;exact g1
   ·rw [g2] at h;exact J70 f (pos+1) omg h j omg h2
theorem J7o {s:ByteArray}:∀ (f pos k:Nat),idxFuncFrom figR false s f pos=(k:Int)->k<s.size/\figR (s.data.toList.getD k 0).toNat=false
 | 0,pos,k,h=>by simp [idxFuncFrom] at h
 | f+1,pos,k,h=>by
  unfold idxFuncFrom at h;split at h
  ·rename_i hlt;split at h
   ·rename_i hp;have hk:pos=k:=by omega
    subst hk;refine ⟨hlt,?_⟩;cases hb:figR (s.data.toList.getD pos 0).toNat with
    | false=>rfl
    | true =>
     rw [Kao hb] at hp;simp only at hp;rw [hb] at hp;cases hp
   ·exact J7o f _ k h
  ·omega
theorem J3o {l:List UInt8} (hl:l≠[]) (h:figR (decodeLastL l).1=true):figR (l.getD (l.length - 1) 0).toNat=true/\(decodeLastL l).2=1:=by
 unfold decodeLastL at h ⊢;rw [if_neg hl] at h ⊢;split
 ·rename_i hb;rw [if_pos hb] at h;exact ⟨h,rfl⟩
 ·rename_i hb;rw [if_neg hb] at h;simp only at h;split at h
  ·rename_i hd;exfalso;have hlen:0<l.length:=Ecb.2 hl;have hfig:(decodeL (l.drop (lastStart l))).1<128:=by simp [figR] at h;omega
   generalize hq:l.drop (lastStart l)=q at hfig hd;cases q with
   | nil =>
    have:=congrArg List.length hq;simp only [Ea4,List.length_nil] at this;rw [show (decodeL []).2=1 from by decide] at hd;omega
   | cons c r =>
    have hc:c.toNat<128:=by
     by_cases hc:c.toNat<128
     ·exact hc
     ·exfalso;simp only [decodeL] at hfig;rw [decode_N] at hfig;simp only [List.getD_cons_zero] at hfig;have:=fun n b1 b2 b3=>J3u (n:=n) (b1:=b1) (b2:=b2) (b3:=b3) (by omega:128<=c.toNat)
      exact absurd hfig (Nat.not_lt.2 (this _ _ _ _))
    rw [decodeL_ascii c r hc] at hd;simp only at hd;have hlr:r=[]:=by
     have:=congrArg List.length hq;simp at this;exact Eal omg
    subst hlr;have e:l.getD (l.length - 1) 0=c:=by
     have h1:l[lastStart l]? = some c:=by
      have:=congrArg (fun x=>x[0]?) hq;simpa using this
     have h2:l.length - 1=lastStart l:=by omega
     rw [h2];simp [Eah,h1]
    rw [e] at hb;exact hb hc
  ·exfalso;simp [figR,Utf8.runeError] at h
theorem J5a {s:ByteArray}:∀ (f i:Nat),i<=f->i<=s.size->lastIdxFuncFrom figR false s f i = -1->∀ j,j<i->figR (s.data.toList.getD j 0).toNat=true
 | 0,i,hf,_,h,j,hj=>by omega
 | f+1,i,hf,hs,h,j,hj=>by
  unfold lastIdxFuncFrom at h;rw [if_pos omg] at h;split at h
  ·omega
  ·rename_i hp;have hsz:s.data.toList.length=s.size:=by simp
   have hl:(s.data.toList.take i).length=i:=by rw [Eaw];omega
   have hp':figR (decodeLastL (s.data.toList.take i)).1=true:=by simpa using hp
   obtain ⟨g1,g2⟩:=J3o (by intro hn;rw [hn] at hl;simp at hl;omega) hp';rw [hl] at g1;rw [g2] at h;by_cases hji:j=i - 1
   ·subst hji;have:(s.data.toList.take i).getD (i - 1) 0=s.data.toList.getD (i - 1) 0:=by
     simp [Eah,Eao,show i - 1<i by omega]
    rw [<- this];exact g1
   ·exact J5a f (i - 1) omg omg h j omg
theorem J0s {l:List UInt8}:Jqr l=true ↔ ∀ j,j<l.length->figR (l.getD j 0).toNat=true:=by
 simp only [Jqr,Ebw];constructor
 ·intro h j hj;have:=h l[j] (Ebq hj);simpa [Eah,hj,figR,J7r] using this
 ·intro h x hx;obtain ⟨j,hj,rfl⟩:=Ea6 hx;simpa [Eah,hj,figR,J7r] using h j hj
theorem Jun (s:ByteArray):s.data.toList.length=s.size:=by simp
theorem J36 (s:ByteArray):((trimF figR s).data.toList == [])=Jqr s.data.toList:=by
 unfold trimF;by_cases hk:idxFunc figR false s = -1
 ·have h1:Jqr s.data.toList=true:=by
   rw [J0s];intro j hj;rw [Jun] at hj;exact J70 s.size 0 omg hk j (Eav _) hj
  rw [h1];unfold trimLeftF;rw [if_pos hk];unfold trimRightF;simp [ByteArray.data_extract]
 ·obtain ⟨k,hk2⟩:∃ k:Nat,idxFunc figR false s=k:=by
   rcases idxFunc_range figR false s with h | ⟨h,_⟩
   ·exact absurd h hk
   ·exact ⟨_,(Int.toNat_of_nonneg h).symm⟩
  obtain ⟨h1,h2⟩:=J7o _ _ _ hk2;have h3:Jqr s.data.toList=false:=by
   cases hf:Jqr s.data.toList with
   | false=>rfl
   | true =>
    rw [J0s] at hf;rw [hf k (by rw [Jun];exact h1)] at h2;cases h2
  rw [h3];have ht:trimLeftF figR s=s.extract k s.size:=by
   unfold trimLeftF;rw [if_neg hk,hk2];simp
  rw [ht];generalize hte:s.extract k s.size=t;have htl:t.data.toList=s.data.toList.drop k:=by
   rw [<- hte];simp [ByteArray.data_extract,Array.toList_extract];rw [Ead sm]
  have hts:t.size=s.size - k:=by rw [<- Jun,htl,Ea4,Jun]
  have h0:figR (t.data.toList.getD 0 0).toNat=false:=by
   rw [htl];simpa [Eah,Ecg] using h2
  have hlast:0<=lastIdxFunc figR false t:=by
   rcases lastIdxFuncFrom_range figR false t t.size t.size with h | ⟨h,_⟩
   ·have:=J5a t.size t.size (Eai _) (Eai _) h 0 omg;rw [h0] at this;cases this
   ·exact h
  have hpos:1<=rightEndF figR t:=by
   unfold rightEndF;rw [if_pos hlast];unfold decodeGoB;by_cases hz:(lastIdxFunc figR false t).toNat=0
   ·rw [hz];have hsz:(t.extract 0 t.size).size=t.size:=by simp
    rw [if_neg (by rw [hsz];omega)];have:=decodeN_ge1;rw [decode_N];have:=this ((t.extract 0 t.size).data.toList.length - 0) ((t.extract 0 t.size).data.toList.getD 0 0).toNat ((t.extract 0 t.size).data.toList.getD (0+1) 0).toNat ((t.extract 0 t.size).data.toList.getD (0+2) 0).toNat ((t.extract 0 t.size).data.toList.getD (0+3) 0).toNat;omega
   ·omega
  have:(trimRightF figR t).data.toList≠[]:=by
   intro hn;unfold trimRightF at hn;have e:(t.extract 0 (rightEndF figR t)).data.toList=t.data.toList.take (rightEndF figR t):=by simp [ByteArray.data_extract,Array.toList_extract]
   rw [e] at hn;have hl:=congrArg List.length hn;rw [Eaw,Jun] at hl;simp only [List.length_nil] at hl;omega
  simpa using this
end Go.LX
namespace Go.LX

end Go.LX
namespace Go.LX
open Go Go.Proofs
abbrev Node.pv (n:Node):List PV:=n.cells
theorem Jth (n:Node):n.pv=[.int .i64 n.kind,.int .i64 n.many,.str n.name,.str n.s,.bool n.neg,.int .i64 n.e]:=(rfl)
def J1b (many e:Int):Bool:=decide (-1000<=e) && decide (e<=1000) && decide (many+e<=1000)
theorem J41 {m e:Int}:J1b m e=false ↔ e < -1000\/1000<e\/1000<m+e:=by
 simp only [J1b];by_cases h1:-1000<=e <;> by_cases h2:e<=1000 <;> by_cases h3:m+e<=1000 <;> simp [h1,h2,h3] <;> omega
def numRight (n:Node):Bool :=
 if ¬ n.kind=3 then false else if ¬ n.many=0 then false else if ¬ n.name.length=0 then false else if Jqr n.s=false then false else if 100<(n.s.length:Int) then false else
 if n.e < -1000 then false else if 1000<n.e then false else if 1000<(n.s.length:Int)+n.e then false else
 if n.s.length=0 then (if n.neg=false then n.e == 0 else false) else (if ¬ (at_ n.s 0:Int)=48 then ((at_ n.s (n.s.length - 1):Int) != 48) else false)
def cmpI (a b:Int):Int:=if a<b then -1 else if b<a then 1 else 0
def cmpS (a b:List UInt8):Int:=if Op.bytesLess a b=true then -1 else if (Op.bytesLess a b || a == b)=false then 1 else 0
def Jt3:Node:=⟨0,0,[],[],false,0⟩
def make (neg:Bool) (s:List UInt8) (e:Int):Node×Int :=
 if Jqr s=false then (Jt3,4) else
 if (Jr9 s).length=0 then ({ Jt3 with kind:=3 },0) else
 if e < -100000000 then (Jt3,2) else if 100000000<e then (Jt3,2) else
 let t:=Jqy (Jr9 s);let e':=e+((Jr9 s).length - t.length)
 if 100<(t.length:Int) then (Jt3,2) else if e' < -1000 then (Jt3,2) else if 1000<(t.length:Int)+e' then (Jt3,2) else
 ({ Jt3 with kind:=3,s:=t,neg:=neg,e:=e' },0)
def Jxi (a b:Node):Int :=
 if a.s.length=0 then cmpI a.s.length b.s.length else if b.s.length=0 then cmpI a.s.length b.s.length else
 if ¬ cmpI (a.s.length+a.e) (b.s.length+b.e)=0 then cmpI (a.s.length+a.e) (b.s.length+b.e) else cmpS a.s b.s
def Jwe (a b:Node):Int :=
 if a.neg=true/\b.neg=false then -1 else if b.neg=true/\a.neg=false then 1 else if a.neg=true then Jxi b a else Jxi a b
structure Node.small (n:Node):Prop where
 s:n.s.length<=1000000
 e1:-1000000<=n.e
 e2:n.e<=1000000
def Js1 (n:Node) (p:Int):Int :=
 let i:=(n.s.length:Int) - 1 - (p - n.e)
 if i<0 then 0 else if (n.s.length:Int)<=i then 0 else ((at_ n.s i.toNat:Int) - 48) % 256
def Jtn (f g:Int->Int) (side:Int):Nat->Int->Int
 | 0,_=>0
 | n+1,p=>if f p<g p then -side else if g p<f p then side else Jtn f g side n (p - 1)
def Juc (a b:Node):Int :=
 let side:=if a.neg=true then -1 else 1
 if a.neg != b.neg then side else
 let top:=max ((a.s.length:Int)+a.e) (b.s.length+b.e)
 Jtn (Js1 a) (Js1 b) side (top - min a.e b.e+1).toNat top
def J9n (n:Node):List UInt8:=if n.neg=true then [45] else []
def Keq (n:Node):List UInt8 :=
 if n.s.length=0 then [48] else
 if 0<=n.e/\(n.s.length:Int)+n.e<=20 then J9n n ++ n.s ++ Lib.repeatL [48] n.e.toNat else
 if n.e<0/\-20<=n.e then
  J9n n ++ (Lib.repeatL [48] (1 - n.e - n.s.length).toNat ++ n.s).take (((Lib.repeatL [48] (1 - n.e - n.s.length).toNat ++ n.s).length:Int)+n.e).toNat ++ [46] ++ (Lib.repeatL [48] (1 - n.e - n.s.length).toNat ++ n.s).drop (((Lib.repeatL [48] (1 - n.e - n.s.length).toNat ++ n.s).length:Int)+n.e).toNat
 else J9n n ++ n.s ++ [101] ++ Lib.itoa n.e
def val (l:List UInt8):Int:=l.foldl (fun n c=>n * 10+((c.toNat:Int) - 48)) 0
end Go.LX
namespace Go.Proofs
open Go.Shelf
end Go.Proofs
set_option maxRecDepth 100000
set_option maxHeartbeats 2000000
namespace Go.LX
open Go Go.RowKit Go.Proofs
attribute [local irreducible] Al SWP Bi
theorem J83 (a:Int):Det cx 153 [.p (.int .i64 a)] [] (.p (.bool false)) []:=by
 (refine bgo Tryz.func153 ?_;simp only [go_sem,simprocAttr])
theorem J8z (a:List UInt8):Det cx 155 [.p (.str a)] [] (.p (.bool false)) []:=by
 (refine bgo Tryz.func155 ?_;simp only [go_sem,simprocAttr])
theorem Jx2 (a b:Int):Det cx 115 [.p (.int .i64 a),.p (.int .i64 b)] [] (.p (.int .i64 (cmpI a b))) []:=by
 (refine bgo Tryz.func115 ?_;simp only [go_sem,simprocAttr]);(repeat' (first|(apply iteI<;>intro h)|((refine Jqa (J83 _) ?_);simp only [go_sem,simprocAttr])|fail))
 all_goals simp [cmpI, *]
theorem J9j (a b:List UInt8):Det cx 117 [.p (.str a),.p (.str b)] [] (.p (.int .i64 (cmpS a b))) []:=by
 (refine bgo Tryz.func117 ?_;simp only [go_sem,simprocAttr]);(repeat' (first|(apply iteI<;>intro h)|((refine Jqa (J8z _) ?_);simp only [go_sem,simprocAttr])|fail))
 all_goals simp_all [cmpS]
end Go.LX
namespace Go.LX
open Go Go.RowKit Go.Proofs
attribute [local irreducible] Al SWP Bi
theorem Kfr (a b:Node) (ha:a.small) (hb:b.small):Det cx 154 [.p (.agg a.pv),.p (.agg b.pv)] [] (.p (.int .i64 (Jxi a b))) []:=by
 obtain ⟨a1,a2,a3⟩:=ha;obtain ⟨b1,b2,b3⟩:=hb;(refine bgo Tryz.func154 ?_;simp only [go_sem,simprocAttr,Jth]);simp (disch:=omega) only [Aa];(repeat' (first|(apply iteI<;>intro h)|((first|(refine Jqa (Jx2 _ _) ?_)|(refine Jqa (J9j _ _) ?_));simp only [go_sem,simprocAttr])|fail))
 all_goals simp_all [Jxi]
theorem Kdu (a b:Node) (ha:a.small) (hb:b.small):Det cx 116 [.p (.agg a.pv),.p (.agg b.pv)] [] (.p (.int .i64 (Jwe a b))) []:=by
 (refine bgo Tryz.func116 ?_;simp only [go_sem,simprocAttr,Jth]);(repeat' (first|(apply iteI<;>intro h)|((first|(refine Jqa (Kfr a b ha hb) ?_)|(refine Jqa (Kfr b a hb ha) ?_));simp only [go_sem,simprocAttr])|fail))
 all_goals simp_all [Jwe]
end Go.LX
