/- Paths: a step, as the document reads it. -/
import Derived.Test.YtgfggbndbceppaaGreatDoorLxQ
import Derived.Test.YtgfggbndbceppaaGreatDoorLxN
import Derived.Test.YtgfggbndbceppaaGreatDoorLxI
import Derived.Test.YtgfggbndbceppaaGreatDoorLxK
import Derived.Test.YtgfggbndbceppaaGreatDoorLxL
import Derived.Lib.Overlaps
import Derived.Test.YtgfggbndbceppaaGreatDoorLxO
set_option linter.unusedSimpArgs false
set_option linter.unusedVariables false
set_option linter.unusedSectionVars false
set_option linter.unnecessarySimpa false
set_option maxRecDepth 100000
set_option maxHeartbeats 2000000
namespace Go.LX
open Go Go.RowKit Go.Proofs
attribute [local irreducible] Al SWP Bi
def H3 (s:List UInt8) (j:Nat):Prop:=letP (at_ s j)∨(0<j∧figP (at_ s j))
instance (s:List UInt8) (j:Nat):Decidable (H3 s j):=inferInstanceAs (Decidable (_∨_))
theorem Wt (s:List UInt8):∀ f i,i≤s.length→s.length+1≤i+f→(∀ j,i≤j→j<wF s f i→H3 s j)∧(wF s f i<s.length→¬ H3 s (wF s f i))
 | 0,i,h,h2=>by omega
 | f+1,i,h,h2=>by
  rw [wF];split
  ·rename_i hc;obtain ⟨g1,g2⟩:=Wt s f (i+1) omg omg;refine ⟨fun j h3 h4=>?_,g2⟩;by_cases hj:j=i
   ·subst hj;exact hc.2
   ·exact g1 j omg h4
  ·rename_i hc;exact ⟨fun j h3 h4=>by omega,fun hl hg=>hc ⟨hl,hg⟩⟩
theorem Sh {s:List UInt8} {j:Nat} (h:j<Dm s):H3 s j:=(Wt s (s.length+1) 0 (Nat.zero_le _) omg).1 j (Nat.zero_le _) h
theorem Jam {s:List UInt8} (h:Dm s<s.length):¬ H3 s (Dm s):=(Wt s (s.length+1) 0 (Nat.zero_le _) omg).2 h
theorem J6o {s:List UInt8} {m j:Nat} (h:j<m):at_ (s.take m) j=at_ s j:=by
 simp only [at_,List.getD_eq_getElem?_getD];rw [List.getElem?_take_of_lt h]
theorem Jv6 {u:List UInt8} {j:Nat} (hj:j<u.length) (hw:j≤Dm u):isWd (u.take (j+1)) ↔ j<Dm u:=by
 have hl:(u.take (j+1)).length=j+1:=by rw [List.length_take];omega
 have hle:=P3 (u.take (j+1));have hne:u.take (j+1)≠[]:=fun e=>by rw [e] at hl;simp at hl
 have hat:∀ x,x<j+1→(H3 (u.take (j+1)) x ↔ H3 u x):=fun x hx=>by unfold H3;rw [J6o hx]
 constructor
 ·rintro ⟨_,h⟩;rw [hl] at h;have h1:=(hat j omg).1 (Sh omg);apply Decidable.byContradiction;intro hn;have e:Dm u=j:=by omega
  exact Jam (s:=u) omg (by rw [e];exact h1)
 ·intro h;refine ⟨hne,?_⟩;apply Decidable.byContradiction;intro hn;have hlt:Dm (u.take (j+1))<j+1:=by omega
  exact Jam (s:=u.take (j+1)) omg ((hat _ hlt).2 (Sh omg))
def Jr7 (s:List UInt8) (i:Nat) (first:Bool):Step×Nat :=
 if (Bw (s.drop i)).2≠0 then Bw (s.drop i)
 else if first=true then (if (i<s.length∧at_ s i=46)∧(Jtc s (i+1)).2≠0 then ((Jtc s (i+1)).1,(Jtc s (i+1)).2+1) else (Dv,0))
 else if i<s.length∧at_ s i=46 then (Dv,0) else Jtc s i
theorem Jvy {s:List UInt8} {i:Nat}:(s.drop i).take 1=[46] ↔ (i<s.length∧at_ s i=46):=by
 constructor
 ·intro h;have hl:i<s.length:=by
   apply Decidable.byContradiction;intro hn;rw [List.drop_eq_nil_of_le omg] at h;cases h
  rw [List.drop_eq_getElem_cons hl,List.take_succ_cons,List.take_zero] at h;have:s[i]=46:=by simpa using h
  exact ⟨hl,by rw [Juz (List.getElem?_eq_getElem hl),this];rfl⟩
 ·rintro ⟨hl,ha⟩;rw [List.drop_eq_getElem_cons hl,List.take_succ_cons,List.take_zero];congr 1;exact UInt8.toNat_inj.1 (by rw [← Juz (List.getElem?_eq_getElem hl),ha];rfl)
theorem Jzy {s:List UInt8} {i:Nat} (h:i≤s.length):i≤(figS s i).2∧(figS s i).2≤s.length∧(figS s i).1≤1000000∧-1≤(figS s i).1:=by
 have:=(Jd2 7 (s.drop i)).2;rw [List.length_drop] at this;unfold figS;split
 ·exact ⟨Nat.le_refl _,h,by simp,by simp⟩
 ·simp only;omega
theorem J0z {s:List UInt8} {i:Nat} (h:¬ (i<s.length∧at_ s i=91∧0≤(figS s (i+1)).1∧(figS s (i+1)).2<s.length∧at_ s (figS s (i+1)).2=93)):Jtc s i=(Dv,0):=by
 unfold Jtc;by_cases h1:i<s.length∧at_ s i=91
 ·rw [if_pos h1,if_neg (fun h2=>h ⟨h1.1,h1.2,h2⟩)]
 ·rw [if_neg h1]
theorem Jzb {s:List UInt8} {i:Nat} (h:i<s.length∧at_ s i=91∧0≤(figS s (i+1)).1∧(figS s (i+1)).2<s.length∧at_ s (figS s (i+1)).2=93):Jtc s i=(⟨true,[],(figS s (i+1)).1⟩,(figS s (i+1)).2+1 - i):=by
 unfold Jtc;rw [if_pos ⟨h.1,h.2.1⟩,if_pos h.2.2]
theorem Jz9 (s:List UInt8) (i:Nat) (first:Bool) (hs:s.length≤1000000) (hi:i≤s.length) (hd:¬ (i<s.length∧at_ s i=46)):Det cx 165 [.p (.str s),.p (.int .i64 i),.p (.bool first)] [] (.tup [.agg (Jr7 s i first).1.cells,.int .i64 (i+(Jr7 s i first).2:Nat)]) []:=by
 have hf:(Bw (s.drop i)).2=0:=by unfold Bw;rw [if_neg (fun h=>hd (Jvy.1 h))]
 have e:Jr7 s i first=if first=true then (Dv,0) else Jtc s i:=by
  unfold Jr7;rw [if_neg omg,if_neg (c:=(i<s.length∧at_ s i=46)∧_) (fun h=>hd h.1),if_neg hd]
 rw [e];cases first
 ·rw [if_neg sm];(refine bgo Tryz.func165 ?_;simp only [go_sem,simprocAttr,wi1 (i:=i) omg]);(repeat' (first | (apply iteI <;> intro h)|(refine Jqd ?_)|((refine Jqa (Jzj s (i+1) hs omg) ?_);simp only [go_sem,simprocAttr,wi1 (i:=i) omg])|(exfalso;omega)))
  all_goals first
   | (rw [J0z omg];exact ⟨rfl,rfl⟩)
   | (
    have hl:=Jzy (s:=s) (i:=i+1) omg;rw [Jzb omg,Aa omg omg];refine ⟨rfl,?_⟩;simp only;omega)
 ·(refine bgo Tryz.func165 ?_;simp only [go_sem,simprocAttr,wi1 (i:=i) omg]);(repeat' (first | (apply iteI <;> intro h)|(refine Jqd ?_)|(exfalso;omega)))
  all_goals exact ⟨rfl,rfl⟩
theorem J2q (s:List UInt8) (i:Nat) (first:Bool) (hs:s.length≤1000000) (hi:i<s.length) (hd:at_ s i=46):Det cx 165 [.p (.str s),.p (.int .i64 i),.p (.bool first)] [] (.tup [.agg (Jr7 s i first).1.cells,.int .i64 (i+(Jr7 s i first).2:Nat)]) []:=by
 have hdot:=Jvy.2 ⟨hi,hd⟩;have hdr:(s.drop i).drop 1=s.drop (i+1):=by rw [List.drop_drop]
 have hwl:=P3 (s.drop (i+1));have hlen:(s.drop (i+1)).length=s.length - (i+1):=List.length_drop;rw [hlen] at hwl;(refine bgo Tryz.func165 ?_;simp only [go_sem,simprocAttr,wi1 (i:=i) omg]);(repeat' (first | (apply iteI <;> intro h)|(refine Jqd ?_)|(exfalso;omega)));refine SWP.loop (fun k:Nat=>⟨Ba 129 [(0,.p (.str s)),(1,.p (.int .i64 (i+1:Nat))),(2,.p (.bool first)),(6,.ptr 6 0 0),(8,.p (.int .i64 i)),(9,.p (.int .i64 (i+1+k:Nat)))],[(6,.var 67 [.p (.bool false),.p (.str []),.p (.int .i64 0)])]⟩) (fun k=>k≤Dm (s.drop (i+1))) (fun k=>Dm (s.drop (i+1)) - k) 0 Jqe (Nat.zero_le _) ?_;intro k hk;have hsub:i+1+k+1 - (i+1)=k+1:=by omega
 have hw1:=wi1 (i:=i+1+k) omg;by_cases hlt:k<Dm (s.drop (i+1))
 ·have hW:decide (isWd ((s.drop (i+1)).take (k+1)))=true:=decide_eq_true ((Jv6 omg hk).2 hlt);(refine lws ?_;simp only [go_sem,simprocAttr,wi1 (i:=i) omg,hsub,hw1]);(repeat' (first | (apply iteI <;> intro h)|(refine Jqd ?_)|((refine Jqa (Jsd ((s.drop (i+1)).take (k+1)) (by rw [List.length_take];omega)) ?_);simp only [go_sem,simprocAttr,wi1 (i:=i) omg,hw1,hW])|(exfalso;omega)));exact ⟨k+1,by omega,by omega,Jqe⟩
 ·have hkw:k=Dm (s.drop (i+1)):=by omega
  by_cases hk0:0<k
  ·have ef:Bw (s.drop i)=(⟨false,(s.drop (i+1)).take k,0⟩,k+1):=by
    unfold Bw;rw [if_pos hdot,hdr,if_pos omg,hkw]
   have e:Jr7 s i first=(⟨false,(s.drop (i+1)).take k,0⟩,k+1):=by
    unfold Jr7;rw [ef,if_pos (Nat.succ_ne_zero _)]
   have hfin:([PV.bool false,PV.str (List.take (i+1+k - (i+1)) (List.drop (i+1) s)),PV.int IntKind.i64 0]=(Jr7 s i first).1.cells∧((i+1+k:Nat):Int)=((i+(Jr7 s i first).2:Nat):Int)):=by
    rw [e];refine ⟨?_,?_⟩
    ·rw [show i+1+k - (i+1)=k by omega];rfl
    ·simp only;omega
   by_cases hend:i+1+k<s.length
   ·have hW:decide (isWd ((s.drop (i+1)).take (k+1)))=false:=decide_eq_false (fun h=>hlt ((Jv6 omg hk).1 h));(refine lws ?_;simp only [go_sem,simprocAttr,wi1 (i:=i) omg,hsub,hw1]);(repeat' (first | (apply iteI <;> intro h)|(refine Jqd ?_)|((refine Jqa (Jsd ((s.drop (i+1)).take (k+1)) (by rw [List.length_take];omega)) ?_);simp only [go_sem,simprocAttr,wi1 (i:=i) omg,hW])|(exfalso;omega)));exact hfin
   ·have hW:=hw1;(refine lws ?_;simp only [go_sem,simprocAttr,wi1 (i:=i) omg,hsub,hw1]);(repeat' (first | (apply iteI <;> intro h)|(refine Jqd ?_)|(exfalso;omega)));exact hfin
  ·have hk1:k=0:=by omega
   subst hk1;have hdl:(s.drop (i+1)).length≤1000000:=by omega
   obtain ⟨u1,u2,u3⟩:=Jl8 (s.drop (i+1));rw [hlen] at u2 u3;have hsub:i+1+0+1 - (i+1)=1:=by omega
   have hsubq:i+1+(uq (s.drop (i+1))).2.1 - (i+1)=(uq (s.drop (i+1))).2.1:=by omega
   have hwq:=wia (i:=i+1) (j:=(uq (s.drop (i+1))).2.1) omg omg;have hG:(uq (s.drop (i+1))).2.2=0→¬ isWd (uq (s.drop (i+1))).1→refQ (uq (s.drop (i+1))).1=(s.drop (i+1)).take (uq (s.drop (i+1))).2.1→Jr7 s i first=(⟨false,(uq (s.drop (i+1))).1,0⟩,(uq (s.drop (i+1))).2.1+1):=fun g1 g2 g3=>by
    have ef:Bw (s.drop i)=(⟨false,(uq (s.drop (i+1))).1,0⟩,(uq (s.drop (i+1))).2.1+1):=by
     unfold Bw;rw [if_pos hdot,hdr,if_neg omg,if_neg];rintro (h | h | h)
     ·exact h g1
     ·exact g2 h
     ·exact h g3
    unfold Jr7;rw [ef,if_pos (Nat.succ_ne_zero _)]
   have hB:¬ ((uq (s.drop (i+1))).2.2=0∧¬ isWd (uq (s.drop (i+1))).1∧refQ (uq (s.drop (i+1))).1=(s.drop (i+1)).take (uq (s.drop (i+1))).2.1)→Jr7 s i first=if first=true then (if (Jtc s (i+1)).2≠0 then ((Jtc s (i+1)).1,(Jtc s (i+1)).2+1) else (Dv,0)) else (Dv,0):=fun hb=>by
    have ef:Bw (s.drop i)=(Dv,0):=by
     unfold Bw;rw [if_pos hdot,hdr,if_neg omg,if_pos];apply Decidable.byContradiction;intro hn;refine hb ⟨?_,?_,?_⟩
     ·exact Decidable.byContradiction fun h=>hn (.inl h)
     ·exact fun h=>hn (.inr (.inl h))
     ·exact Decidable.byContradiction fun h=>hn (.inr (.inr h))
    unfold Jr7;rw [ef,if_neg (fun h=>h rfl),if_pos (c:=i<s.length∧at_ s i=46) ⟨hi,hd⟩];by_cases hp:(Jtc s (i+1)).2≠0
    ·rw [if_pos hp,if_pos (c:=(i<s.length∧at_ s i=46)∧_) ⟨⟨hi,hd⟩,hp⟩]
    ·rw [if_neg hp,if_neg (c:=(i<s.length∧at_ s i=46)∧_) (fun h=>hp h.2)]
   have hB1:¬ ((uq (s.drop (i+1))).2.2=0∧¬ isWd (uq (s.drop (i+1))).1∧refQ (uq (s.drop (i+1))).1=(s.drop (i+1)).take (uq (s.drop (i+1))).2.1)→first=false→Jr7 s i first=(Dv,0):=fun hb hf=>by rw [hB hb,hf,if_neg sm]
   have hB2:¬ ((uq (s.drop (i+1))).2.2=0∧¬ isWd (uq (s.drop (i+1))).1∧refQ (uq (s.drop (i+1))).1=(s.drop (i+1)).take (uq (s.drop (i+1))).2.1)→¬ first=false→¬ (i+1<s.length∧at_ s (i+1)=91∧0≤(figS s (i+1+1)).1∧(figS s (i+1+1)).2<s.length∧at_ s (figS s (i+1+1)).2=93)→Jr7 s i first=(Dv,0):=fun hb hf h=>by
    rw [hB hb,J0z h];cases first <;> rfl
   have hB3:¬ ((uq (s.drop (i+1))).2.2=0∧¬ isWd (uq (s.drop (i+1))).1∧refQ (uq (s.drop (i+1))).1=(s.drop (i+1)).take (uq (s.drop (i+1))).2.1)→¬ first=false→(i+1<s.length∧at_ s (i+1)=91∧0≤(figS s (i+1+1)).1∧(figS s (i+1+1)).2<s.length∧at_ s (figS s (i+1+1)).2=93)→Jr7 s i first=(⟨true,[],(figS s (i+1+1)).1⟩,(figS s (i+1+1)).2+1 - (i+1)+1):=fun hb hf h=>by
    have hl:=Jzy (s:=s) (i:=i+1+1) omg;rw [hB hb,Jzb h,if_pos (by cases first <;> simp_all),if_pos (by simp only;omega)]
   have hwi:IntKind.i64.wrap ((i+1:Nat)+1:Int)=((i+1+1:Nat):Int):=wi1 omg;by_cases hend:i+1+0<s.length
   ·have hW:decide (isWd ((s.drop (i+1)).take (0+1)))=false:=decide_eq_false (fun h=>hlt ((Jv6 omg hk).1 h));have hl:=Jzy (s:=s) (i:=i+1+1) omg;(refine lws ?_;simp only [go_sem,simprocAttr,wi1 (i:=i) omg,hsub,hw1]);(repeat' (first | (apply iteI <;> intro h)|(refine Jqd ?_)|((first | (refine Jqi ?_)|(refine Jqa (Jsd ((s.drop (i+1)).take (0+1)) (by rw [List.length_take];omega)) ?_)|(refine Jqa (Jve (s.drop (i+1)) hdl) ?_)|(refine Jqb (Jsd (uq (s.drop (i+1))).1 omg) ?_)|(refine Jqb (Js6 (uq (s.drop (i+1))).1 omg) ?_)|(refine Jqa (Jzj s (i+1+0+1) hs omg) ?_));simp only [go_sem,simprocAttr,wi1 (i:=i) omg,hw1,hW,hsubq,hwq])|(exfalso;omega)))
    all_goals simp only [Nat.add_zero] at *
    all_goals first
     | (exfalso;omega)
     | (rw [hG omg (by assumption) (by assumption)];exact ⟨rfl,by simp only;omega⟩)
     | (rw [hB1 (fun ⟨a,b,c⟩=>by first | omega | (exact absurd b (by assumption))|(exact absurd c (by assumption))) (by assumption)];exact ⟨rfl,rfl⟩)
     | (rw [hB2 (fun ⟨a,b,c⟩=>by first | omega | (exact absurd b (by assumption))|(exact absurd c (by assumption))) (by assumption) omg];exact ⟨rfl,rfl⟩)
     | (rw [hB3 (fun ⟨a,b,c⟩=>by first | omega | (exact absurd b (by assumption))|(exact absurd c (by assumption))) (by assumption) omg,Aa omg omg];exact ⟨rfl,by simp only;omega⟩)
   ·have hW:=hw1;(refine lws ?_;simp only [go_sem,simprocAttr,wi1 (i:=i) omg,hsub,hw1]);(repeat' (first | (apply iteI <;> intro h)|(refine Jqd ?_)|((first | (refine Jqi ?_)|(refine Jqa (Jve (s.drop (i+1)) hdl) ?_)|(refine Jqb (Jsd (uq (s.drop (i+1))).1 omg) ?_)|(refine Jqb (Js6 (uq (s.drop (i+1))).1 omg) ?_));simp only [go_sem,simprocAttr,wi1 (i:=i) omg,hw1,hsubq,hwq])|(exfalso;omega)))
    all_goals simp only [Nat.add_zero] at *
    all_goals first
     | (exfalso;omega)
     | (rw [hG omg (by assumption) (by assumption)];exact ⟨rfl,by simp only;omega⟩)
     | (rw [hB1 (fun ⟨a,b,c⟩=>by first | omega | (exact absurd b (by assumption))|(exact absurd c (by assumption))) (by assumption)];exact ⟨rfl,rfl⟩)
     | (rw [hB2 (fun ⟨a,b,c⟩=>by first | omega | (exact absurd b (by assumption))|(exact absurd c (by assumption))) (by assumption) omg];exact ⟨rfl,rfl⟩)
theorem d_step (s:List UInt8) (i:Nat) (first:Bool) (hs:s.length≤1000000) (hi:i≤s.length):Det cx 165 [.p (.str s),.p (.int .i64 i),.p (.bool first)] [] (.tup [.agg (Jr7 s i first).1.cells,.int .i64 (i+(Jr7 s i first).2:Nat)]) []:=by
 by_cases hd:i<s.length∧at_ s i=46
 ·exact J2q s i first hs hd.1 hd.2
 ·exact Jz9 s i first hs hi hd
theorem J2k {s:List UInt8} {i:Nat}:Jr7 s i (decide (i=0))=Ee s i:=by
 unfold Jr7 Ee;by_cases hf:(Bw (s.drop i)).2≠0
 ·rw [if_pos hf,if_pos hf]
 ·rw [if_neg hf,if_neg hf,J3t,J3t];by_cases hi:i=0
  ·rw [if_pos (decide_eq_true hi),if_pos hi];subst hi;have hd:=Jvy (s:=s) (i:=0);rw [List.drop_zero] at hd;by_cases h1:s.take 1=[46]
   ·by_cases h2:(Ce (s.drop (0+1))).2≠0
    ·rw [if_pos ⟨hd.1 h1,h2⟩,if_pos ⟨h1,h2⟩]
    ·rw [if_neg (fun h=>h2 h.2),if_neg (fun h=>h2 h.2)]
   ·rw [if_neg (fun h=>h1 (hd.2 h.1)),if_neg (fun h=>h1 h.1)]
  ·rw [if_neg (fun h=>hi (of_decide_eq_true h)),if_neg hi];by_cases hdt:i<s.length∧at_ s i=46
   ·rw [if_pos hdt];refine (Ju4 ?_).symm;unfold Ce;rw [if_neg];rintro ⟨h,-⟩;rw [Jvy.2 hdt] at h;cases h
   ·rw [if_neg hdt]
theorem J40 {s:List UInt8} {i:Nat} (h:s.length≤i):(Ee s i).2=0:=by
 have hd:s.drop i=[]:=List.drop_eq_nil_of_le h;unfold Ee;have hf:Bw []=(Dv,0):=rfl;have hp:Ce []=(Dv,0):=rfl;rw [hd,hf,if_neg (fun h=>h rfl),hp];split
 ·have:s=[]:=List.eq_nil_of_length_eq_zero omg;subst this;rfl
 ·rfl
def begS (s:List UInt8):List Step×Nat:=if (Mp s).1.length=0∧s.take 1=[46] then ((Mp s).1,1) else Mp s
theorem J2c (s:List UInt8) (hs:s.length≤1000000):Det cx 134 [.p (.str s),.p (.int .i64 0)] [] (.tup [.sl (Bb (begS s).1),.int .i64 (begS s).2]) []:=by
 (refine bgo Tryz.func134 ?_;simp only [go_sem,simprocAttr]);refine Jsr (B1 [(10,30)] _ sm) ?_;simp only [go_sem,simprocAttr];refine SWP.loop (fun x:Nat×Nat×List Step=>⟨Ba 52 [(0,.p (.str s)),(1,.p (.int .i64 x.1)),(6,.own 30 0 x.2.2.length),(7,.p (.int .i64 0))],[(30,.row 67 3 (Bb x.2.2))]⟩) (fun x=>x.1≤s.length∧s.length+1≤x.1+x.2.1∧x.2.2.length≤20∧(x.2.2.length=0 ↔ x.1=0)∧Fl s x.2.1 x.1 x.2.2=Mp s) (fun x=>s.length - x.1) (0,s.length+1,[]) (by rw [show Bb []=[] from rfl];exact Jqe) ⟨Nat.zero_le _,by simp,by simp,by simp,rfl⟩ ?_;rintro ⟨i,f,p⟩ ⟨h1,h2,h3,h5,h4⟩;simp only at h1 h2 h3 h4 h5;have hstep:=d_step s i (decide (i=0)) hs h1;rw [J2k] at hstep;have hnl:=J59 h1;have hfd:((p.length:Int) == 0)=decide (i=0):=by
  rw [Bool.eq_iff_iff,beq_iff_eq,decide_eq_true_eq];omega
 have htk:(Bb p).take p.length=Bb p:=List.take_of_length_le sm;have hbeg:Fl s f i p=(p,i)→begS s=if p.length=0∧s.take 1=[46] then (p,1) else (p,i):=fun h=>by
  rw [h] at h4;unfold begS;rw [← h4]
 have hdot:=Jvy (s:=s) (i:=0);rw [List.drop_zero] at hdot;by_cases hc:p.length<20
 ·by_cases hn:(Ee s i).2=0
  ·have hst:Fl s f i p=(p,i):=Gv fun h=>h.2.2 hn
   have hb:=hbeg hst;have hw:=hn;have hel:=hfd;(refine lws ?_;simp only [go_sem,simprocAttr,Aq,htk,Nat.le_refl,hel]);(repeat' (first | (apply iteI <;> intro h)|(refine Jqd ?_)|((refine Jqa (hstep) ?_);simp only [go_sem,simprocAttr,Aq,htk,Nat.le_refl,Step.cells,hel,hw])|(exfalso;omega)))
   ·rw [hb,if_pos ⟨by omega,hdot.2 ⟨by omega,by omega⟩⟩];exact ⟨rfl,rfl⟩
   ·rw [hb,if_neg (fun h=>by have:=(hdot.1 h.2).2;omega)];exact ⟨rfl,rfl⟩
   ·rw [hb,if_neg (fun h=>by have:=(hdot.1 h.2).1;omega)];exact ⟨rfl,rfl⟩
   ·rw [hb,if_neg (fun h=>by omega)];exact ⟨rfl,rfl⟩
  ·obtain ⟨g,rfl⟩:∃ g,f=g+1:=⟨f - 1,by omega⟩
   have hil:i<s.length:=Decidable.byContradiction fun h=>hn (J40 omg)
   rw [Fl,if_pos ⟨hil,hc,hn⟩] at h4;have hel:Bb p ++ [[.bool (Ee s i).1.part,.str (Ee s i).1.name,.int .i64 (Ee s i).1.n]]=Bb (p ++ [(Ee s i).1]):=by rw [Kn];rfl
   have hw:=hfd;(refine lws ?_;simp only [go_sem,simprocAttr,Aq,htk,Nat.le_refl,hfd]);(repeat' (first | (apply iteI <;> intro h)|(refine Jqd ?_)|((refine Jqa (hstep) ?_);simp only [go_sem,simprocAttr,Aq,htk,Nat.le_refl,Step.cells,hel,hfd])|(exfalso;omega)));refine ⟨by simp,by omega,by omega,(i+(Ee s i).2,g,p ++ [(Ee s i).1]),⟨?_,?_,?_,?_,h4⟩,?_,?_⟩
   ·simp only;omega
   ·simp only;omega
   ·simp only [List.length_append,List.length_singleton];omega
   ·simp only [List.length_append,List.length_singleton];constructor
    ·intro h;omega
    ·intro h;omega
   ·simp only;omega
   simp only [List.length_append,List.length_singleton];exact Jqe
 ·have hst:Fl s f i p=(p,i):=Gv fun h=>hc h.2.1
  have hb:=hbeg hst;have hw:=hfd;have hel:=hfd;(refine lws ?_;simp only [go_sem,simprocAttr,Aq,htk,Nat.le_refl,hel]);(repeat' (first | (apply iteI <;> intro h)|(refine Jqd ?_)|((refine Jqa (hstep) ?_);simp only [go_sem,simprocAttr,Aq,htk,Nat.le_refl,Step.cells,hel])|(exfalso;omega)));rw [hb,if_neg omg];exact ⟨rfl,rfl⟩
theorem J5z:begS [46]=([],1):=by
 have e:Mp [46]=([],0):=rfl;unfold begS;rw [e];rfl
theorem Jzp {s:List UInt8}:∀ (f i:Nat) (p:List Step),i≤(Fl s f i p).2∧p.length≤(Fl s f i p).1.length∧((Fl s f i p).1.length=p.length→Fl s f i p=(p,i))
 | 0,i,p=>⟨Nat.le_refl _,Nat.le_refl _,fun _=>rfl⟩
 | f+1,i,p=>by
  rw [Fl];split
  ·have:=Jzp (s:=s) f (i+(Ee s i).2) (p ++ [(Ee s i).1]);rw [List.length_append,List.length_singleton] at this;exact ⟨by omega,by omega,fun h=>by omega⟩
  ·exact ⟨Nat.le_refl _,Nat.le_refl _,fun _=>rfl⟩
theorem J4d (s:List UInt8) (hs:s.length≤1000000):Det cx 105 [.p (.str s)] [] (.tup [.sl (Bb (Je s).1),.int .i64 (Je s).2.1,.int .i64 (Je s).2.2]) []:=by
 refine Det.weak ?_;by_cases hd:s=[46]
 ·subst hd;have hB:=J2c [46] de;rw [J5z] at hB;(refine bgo Tryz.func105 ?_;simp only [go_sem,simprocAttr]);(repeat' (first | ((refine Jqa (hB) ?_);simp only [go_sem,simprocAttr]) | fail));exact .inl rfl
 ·have hd':(s=[46])=False:=eq_false hd;have hB:=J2c s hs;have hnil:=(Jzp (s:=s) (s.length+1) 0 []).2.2;have hR0:(Mp s).1.length=0→Mp s=([],0):=hnil;have hb0:(begS s).1.length=0→(Mp s).1.length=0:=fun h=>by
   unfold begS at h;split at h
   ·exact h
   ·exact h
  have hb1:¬ (begS s).1.length=0→begS s=Mp s:=fun h=>by
   unfold begS at h ⊢;split
   ·rename_i hc;rw [if_pos hc] at h;exact absurd hc.1 h
   ·rfl
  (refine bgo Tryz.func105 ?_;simp only [go_sem,simprocAttr]);(repeat' (first | (apply iteI <;> intro h)|((refine Jqa (hB) ?_);simp only [go_sem,simprocAttr,hd',Aq]) | fail))
  ·have h0:=hR0 (hb0 omg);have e:Je s=([],0,1):=by
    unfold Je;rw [if_neg hd,h0];rw [if_pos (.inr rfl)]
   rw [e];exact Jrq ⟨.nil,.refl _,.refl _,trivial⟩
  ·have hb:=hb1 omg;have hq:(begS s).2<s.length:=by omega
   rw [hb] at hq ⊢;have e:Je s=([],(Mp s).2,1):=by
    unfold Je;rw [if_neg hd,if_pos (.inl omg)]
   rw [e];exact Jrq ⟨.nil,.refl _,.refl _,trivial⟩
  ·have hb:=hb1 omg;have hq:¬ (begS s).2<s.length:=by omega
   have hq2:¬ (begS s).1.length=0:=by omega
   rw [hb] at hq hq2 ⊢;have e:Je s=((Mp s).1,0,0):=by
    unfold Je;rw [if_neg hd,if_neg omg]
   rw [e];exact .inl rfl
def F8 (x y:Step):Prop:=x.part=y.part∧x.name=y.name∧x.n=y.n
instance (x y:Step):Decidable (F8 x y):=inferInstanceAs (Decidable (_∧_))
theorem Dc {x y:Step}:F8 x y ↔ x=y:=by
 unfold F8;constructor
 ·rintro ⟨h1,h2,h3⟩;cases x;cases y;simp_all
 ·rintro rfl;exact ⟨rfl,rfl,rfl⟩
def B7:List Step→List Step→Bool
 | x :: p,y :: q=>!decide (F8 x y) || B7 p q
 | _,_=>false
instance:DecidableEq Step:=fun x y=>decidable_of_iff _ (Dc (x:=x) (y:=y))
def inT:Tree→Step→Except Nat Tree
 | .mk k _ _ _ kids,x =>
  if x.part=true then (if k≠5 then .error 5 else match kids.list[x.n.toNat]? with
   | some p=>.ok p.2
   | none=>.error 6)
  else (if k≠6 then .error 5 else match Ch x.name kids.list with
   | some t=>.ok t
   | none=>.error 6)
theorem Iz {k:Int} {s:List UInt8} {g:Bool} {e:Int} {kids:Forest} {x:Step} (hp:x.part=true) (hk:¬ k=5):inT (.mk k s g e kids) x=.error 5:=by
 show (if x.part=true then (if k≠5 then Except.error 5 else _) else _)=_;rw [if_pos hp,if_pos hk]
theorem Iw {k:Int} {s:List UInt8} {g:Bool} {e:Int} {kids:Forest} {x:Step} (hp:x.part=false) (hk:¬ k=6):inT (.mk k s g e kids) x=.error 5:=by
 show (if x.part=true then _ else (if k≠6 then Except.error 5 else _))=_;rw [if_neg (by simp [hp]),if_pos hk]
theorem Tm {s:List UInt8} {g:Bool} {e:Int} {kids:Forest} {x:Step} (hp:x.part=true):inT (.mk 5 s g e kids) x=match kids.list[x.n.toNat]? with
   | some p=>.ok p.2
   | none=>.error 6:=by
 show (if x.part=true then _ else _)=_;rw [if_pos hp];rfl
theorem Tp {s:List UInt8} {g:Bool} {e:Int} {kids:Forest} {x:Step} (hp:x.part=false):inT (.mk 6 s g e kids) x=match Ch x.name kids.list with
   | some t=>.ok t
   | none=>.error 6:=by
 show (if x.part=true then _ else _)=_;rw [if_neg (by simp [hp])];rfl
def getT:List Step→Tree→Except Nat Tree
 | [],t=>.ok t
 | x :: p,t=>match inT t x with
  | .ok u=>getT p u
  | .error e=>.error e
theorem H2 {name:List UInt8}:∀ {l:List (List UInt8×Tree)} {t:Tree},Ch name l=some t→∃ p∈l,p.2=t∧p.1=name
 | [],t,h=>by cases h
 | p :: l,t,h=>by
  rw [Ch] at h;split at h
  ·cases h;exact ⟨p,List.mem_cons_self,rfl,by assumption⟩
  ·obtain ⟨q,h1,h2⟩:=H2 h;exact ⟨q,List.mem_cons_of_mem _ h1,h2⟩
end Go.LX
namespace Go.LX
open Go Go.RowKit Go.Proofs
section
variable {X:Cx} {ro:Option Nat} {c:Code} {Q:Ex→St→Prop}
end
theorem Al.sub {X:Cx} {f:FuncId} {args:List L} {rs:Regs} {Post Post':L→Regs→Prop} (h:Al X f args rs Post) (hp:∀ m q,Post m q→∃ q0,q0.Sublist q∧Post' m q0):Al X f args rs Post':=by
 refine ⟨h.1,fun β Im w vs hg hf=>(h.2 β Im w vs hg hf).mono fun e w' ⟨v,m,rs',β',Im',he,hP,hr,hc⟩=>?_⟩;obtain ⟨q0,hs,hP'⟩:=hp m rs' hP;have hf':=hc.fit;have key:∀ d r,(d,r)∈q0→(d,r)∈rs':=fun d r hd=>hs.subset hd
 exact ⟨v,m,q0,β',Im',he,hP',hr,{ hc with keys:=fun d r hd=>hc.keys d r (key d r hd),regnew:=fun d r loc hd hl=>hc.regnew d r loc (key d r hd) hl,fit:={ size:=hf'.size,tmps:=hf'.tmps,im:=hf'.im,regs:=fun d r hd=>hf'.regs d r (key d r hd),nodup:=hf'.nodup.sublist (hs.map _),live:=fun d r loc hd hl=>hf'.live d r loc (key d r hd) hl,apart:=fun d r d' r' l1 l2 hd hd' hne h1 h2=>hf'.apart d r d' r' l1 l2 (key d r hd) (key d' r' hd') hne h1 h2 } }⟩
def isSl:Option TypeDesc→Prop
 | some (.slice _)=>True
 | _=>False
theorem Hi {e:TypeId}:isSl (some (.slice e))=True:=(rfl)
def capR (off:Nat) (K:L→Prop):Option Reg→Prop
 | some (.lrow _ _ true es)=>K (.p (.int .i64 (es.length - off:Nat)))
 | _=>False
def capV (regs:Regs) (K:L→Prop):L→Prop
 | .p .snil=>K (.p (.int .i64 0))
 | .own d off _=>capR off K (Am d regs)
 | _=>False
theorem K9 {P:Program} {r:Regs} {t:List L} {o:Operand} {ty:TypeId} {K:L→Prop}:lqvK P r ⟨t,r⟩ (.call { callee:=.builtin .cap,args:=#[o],argTypes:=#[ty] }) K=(isSl (P.underlying ty)∧capV r K ((St.mk t r).get o)):=by
 have h1:(∃ e,P.underlying ty=some (.slice e)) ↔ isSl (P.underlying ty):=by
  unfold isSl;split
  ·rename_i e h;exact ⟨fun _=>trivial,fun _=>⟨e,h⟩⟩
  ·rename_i h;exact ⟨fun ⟨k,hk⟩=>h k hk,fun h=>h.elim⟩
 unfold lqvK lqv;simp only [h1];apply pe;constructor
 ·rintro ⟨l,⟨h,h'⟩,hK⟩;refine ⟨h,?_⟩;split at h'
  ·rename_i hg;rw [hg];subst h';exact hK
  ·rename_i d off n hg;rw [hg];show capR off K (Am d r);split at h'
   ·rename_i T sz es hr;rw [hr];subst h';exact hK
   ·exact h'.elim
  ·exact h'.elim
 ·rintro ⟨h,hK⟩;unfold capV at hK;split at hK
  ·rename_i hg;rw [hg];exact ⟨_,⟨h,rfl⟩,hK⟩
  ·rename_i d off n hg;rw [hg];unfold capR at hK;split at hK
   ·rename_i T sz es hr;simp only [hr];exact ⟨_,⟨h,rfl⟩,hK⟩
   ·exact hK.elim
  ·exact hK.elim
attribute [local irreducible] Al Bi SWP
def Cq (x:List UInt8):List (List UInt8)→Nat
 | []=>0
 | s :: l=>if Op.bytesLess s x=true then Cq x l+1 else 0
def strL (l:List (List UInt8)):List (List PV):=l.map fun s=>[.str s]
end Go.LX
namespace Go.LX
open Go
theorem E0:∀ a:List UInt8,Op.bytesLess a a=false
 | []=>rfl
 | x :: a=>by simp [Op.bytesLess,E0 a]
theorem H8:∀ {a b c:List UInt8},Op.bytesLess a b=true→Op.bytesLess b c=true→Op.bytesLess a c=true
 | _,[],_,h,_=>by simp [Op.bytesLess] at h
 | _,_ :: _,[],_,h=>by simp [Op.bytesLess] at h
 | [],_ :: _,_ :: _,_,_=>rfl
 | x :: a,y :: b,z :: c,h1,h2=>by
  simp only [Op.bytesLess,Bool.or_eq_true,decide_eq_true_eq,Bool.and_eq_true,beq_iff_eq] at h1 h2 ⊢;rcases h1 with h1 | ⟨rfl,h1⟩
  ·rcases h2 with h2 | ⟨rfl,h2⟩
   ·exact .inl (UInt8.lt_trans h1 h2)
   ·exact .inl h1
  ·rcases h2 with h2 | ⟨rfl,h2⟩
   ·exact .inl h2
   ·exact .inr ⟨rfl,H8 h1 h2⟩
theorem L3 {a b:List UInt8} (h:Op.bytesLess a b=true):Op.bytesLess b a=false:=by
 cases h':Op.bytesLess b a with
 | false=>rfl
 | true=>have:=H8 h h';rw [E0] at this;cases this
theorem bl_ne {a b:List UInt8} (h:Op.bytesLess a b=true):a≠b:=by
 rintro rfl;rw [E0] at h;cases h
theorem Qf:∀ {a b:List UInt8},Op.bytesLess a b=false→a≠b→Op.bytesLess b a=true
 | [],[],_,h=>absurd rfl h
 | [],_ :: _,h,_=>by simp [Op.bytesLess] at h
 | _ :: _,[],_,_=>rfl
 | x :: a,y :: b,h1,h2=>by
  simp only [Op.bytesLess,Bool.or_eq_false_iff,decide_eq_false_iff_not,Bool.and_eq_false_imp,beq_iff_eq] at h1;simp only [Op.bytesLess,Bool.or_eq_true,decide_eq_true_eq,Bool.and_eq_true,beq_iff_eq];obtain ⟨h3,h4⟩:=h1;by_cases hxy:x=y
  ·subst hxy;exact .inr ⟨rfl,Qf (h4 rfl) (by rintro rfl;exact h2 rfl)⟩
  ·left;rcases UInt8.lt_or_lt_of_ne hxy with h | h
   ·exact absurd h h3
   ·exact h
def nle (a b:List UInt8):Prop:=Op.bytesLess b a=false
abbrev KT:=List UInt8×Tree
def Rise (l:List KT):Prop:=l.Pairwise fun a b=>Op.bytesLess a.1 b.1=true
theorem Rise.tail {p:KT} {l:List KT} (h:Rise (p :: l)):Rise l:=(List.pairwise_cons.1 h).2
theorem Rise.nodup {l:List KT} (h:Rise l):(l.map (·.1)).Nodup:=by
 unfold List.Nodup;rw [List.pairwise_map];exact List.Pairwise.imp (fun h=>bl_ne h) h
def putL (name:List UInt8) (t:Tree):List KT→List KT
 | []=>[(name,t)]
 | p :: l=>if Op.bytesLess p.1 name=true then p :: putL name t l else (name,t) :: p :: l
def E1:List Bool→List KT→List KT
 | b :: D,p :: l=>if b=true then E1 D l else p :: E1 D l
 | _,_=>[]
def cntT:List Bool→Nat
 | []=>0
 | b :: D=>if b=true then cntT D+1 else cntT D
theorem Jdj:∀ D,cntT D≤D.length
 | []=>Nat.le_refl _
 | b :: D=>by have:=Jdj D;simp only [cntT,List.length_cons];split <;> omega
theorem Ya:∀ {D:List Bool} {b:Nat},D[b]? = some false→cntT (D.set b true)=cntT D+1
 | [],b,h=>by simp at h
 | x :: D,0,h=>by simp at h;subst h;simp [cntT]
 | x :: D,b+1,h=>by
  simp only [List.set_cons_succ,cntT,Ya (D:=D) (b:=b) (by simpa using h)];split <;> rfl
theorem Rn:∀ {D:List Bool} {l:List KT},cntT D=D.length→E1 D l=[]
 | [],_,_=>rfl
 | x :: D,[],_=>rfl
 | x :: D,p :: l,h=>by
  have:=Jdj D;cases x
  ·simp [cntT] at h;omega
  ·simp [cntT] at h;simp only [E1,if_true];exact Rn h
theorem Nf:∀ {D:List Bool} {l:List KT} {p:KT},p∈E1 D l→∃ j:Nat,l[j]? = some p∧D[j]? = some false
 | [],_,p,h=>by simp [E1] at h
 | x :: D,[],p,h=>by simp [E1] at h
 | x :: D,q :: l,p,h=>by
  unfold E1 at h;split at h
  ·obtain ⟨j,h1,h2⟩:=Nf h;exact ⟨j+1,by simpa using h1,by simpa using h2⟩
  ·rename_i hx;rcases List.mem_cons.1 h with rfl | h
   ·exact ⟨0,rfl,by simpa using hx⟩
   ·obtain ⟨j,h1,h2⟩:=Nf h;exact ⟨j+1,by simpa using h1,by simpa using h2⟩
theorem Ol:∀ {D:List Bool} {l:List KT} {p:KT} {j:Nat},l[j]? = some p→D[j]? = some false→p∈E1 D l
 | [],_,_,_,_,h=>by simp at h
 | _ :: _,[],_,_,h,_=>by simp at h
 | x :: D,q :: l,p,0,h,h'=>by
  simp at h h';subst h;subst h';simp [E1]
 | x :: D,q :: l,p,j+1,h,h'=>by
  have:=Ol (D:=D) (l:=l) (j:=j) (by simpa using h) (by simpa using h');unfold E1;split
  ·exact this
  ·exact List.mem_cons_of_mem _ this
theorem Qi:∀ {D:List Bool} {l:List KT} {p:KT} {j:Nat},l[j]? = some p→D[j]? = some false→(E1 D l).Perm (p :: E1 (D.set j true) l)
 | [],_,_,_,_,h=>by simp at h
 | _ :: _,[],_,_,h,_=>by simp at h
 | x :: D,q :: l,p,0,h,h'=>by
  simp at h h';subst h;subst h';simp [E1]
 | x :: D,q :: l,p,j+1,h,h'=>by
  have:=Qi (D:=D) (l:=l) (j:=j) (by simpa using h) (by simpa using h');simp only [List.set_cons_succ,E1];split
  ·exact this
  ·exact (this.cons q).trans (.swap _ _ _)
structure Picks (l S:List KT) (D:List Bool):Prop where
 len:D.length=l.length
 cnt:cntT D=S.length
 perm:(S ++ E1 D l).Perm l
 rise:Rise S
 low:∀ s∈S,∀ p∈E1 D l,nle s.1 p.1
theorem Picks.done {l S:List KT} {D:List Bool} (h:Picks l S D) (hn:S.length=l.length):S.Perm l:=by
 have:=h.perm;rw [Rn (by rw [h.cnt,hn,h.len]),List.append_nil] at this;exact this
theorem Picks.next {l S:List KT} {D:List Bool} (h:Picks l S D) {b:Nat} {p:KT} (hp:l[b]? = some p) (hb:D[b]? = some false) (hm:∀ (j:Nat) (q:KT),l[j]? = some q→D[j]? = some false→nle p.1 q.1) (hl:∀ q,S.getLast? = some q→q.1≠p.1):Picks l (S ++ [p]) (D.set b true):=by
 have hpr:=Ol hp hb;have ht:=Qi hp hb;refine ⟨by simp [h.len],by rw [Ya hb,h.cnt];simp,?_,?_,?_⟩
 ·rw [List.append_assoc];exact ((List.Perm.append_left S ht.symm)).trans h.perm
 ·refine List.pairwise_append.2 ⟨h.rise,List.pairwise_singleton _ _,fun s hs q hq=>?_⟩;rw [List.mem_singleton] at hq;subst hq;have h1:=h.low s hs q hpr;by_cases e:s.1=q.1
  ·exfalso;obtain ⟨S',z,rfl⟩:∃ S' z,S=S' ++ [z]:=by
    rcases List.eq_nil_or_concat S with rfl | ⟨S',z,rfl⟩
    ·cases hs
    ·exact ⟨S',z,by simp⟩
   have hz:=hl z sm;have h2:=h.low z sm q hpr;have h3:=Qf (a:=q.1) (b:=z.1) h2 (Ne.symm hz);rcases List.mem_append.1 hs with hs | hs
   ·have h4:=(List.pairwise_append.1 h.rise).2.2 s hs z sm;rw [e] at h4;have:=L3 h4;rw [h3] at this;cases this
   ·rw [List.mem_singleton] at hs;subst hs;exact hz e
  ·exact Qf (a:=q.1) (b:=s.1) h1 (Ne.symm e)
 ·intro s hs q hq;have hq':q∈E1 D l:=ht.mem_iff.2 (List.mem_cons_of_mem _ hq);rcases List.mem_append.1 hs with hs | hs
  ·exact h.low s hs q hq'
  ·rw [List.mem_singleton] at hs;subst hs;obtain ⟨j,h1,h2⟩:=Nf hq';exact hm j q h1 h2
end Go.LX
namespace Go.LX
open Go Go.RowKit Go.Proofs
attribute [local irreducible] Al SWP Bi
def J7 (D:List Bool):List (List PV):=D.map fun b=>[.bool b]
end Go.LX
namespace Go.LX
open Go
def Ja8 (c:UInt8):Bool:=decide (48≤c.toNat) && decide (c.toNat≤57)
def Pk (s:List UInt8):Bool:=s.all Ja8
def Yz (s:List UInt8) (g:Bool) (e:Int):Prop :=
 Pk s=true∧s.length≤100∧-1000≤e∧e≤1000∧(s.length:Int)+e≤1000∧(if s=[] then g=false∧e=0 else at_ s 0≠48∧at_ s (s.length - 1)≠48)
instance (s:List UInt8) (g:Bool) (e:Int):Decidable (Yz s g e):=by unfold Yz;infer_instance
def G3 (k:Int) (s:List UInt8) (g:Bool) (e:Int) (m:Int):Prop :=
 if k=0∨k=1∨k=2 then m=0∧s=[]∧g=false∧e=0 else if k=3 then m=0∧Yz s g e else if k=4 then valid s=true∧m=0∧g=false∧e=0 else if k=5∨k=6 then 0≤m∧s=[]∧g=false∧e=0 else False
instance (k:Int) (s:List UInt8) (g:Bool) (e m:Int):Decidable (G3 k s g e m):=by unfold G3;infer_instance
def Eh (k:Int) (l:List KT):Prop:=(k=5→∀ p∈l,p.1=[])∧(∀ p∈l,valid p.1=true)∧(k=6→Rise l)
mutual
def okT:Tree→Prop
 | .mk k s g e kids=>G3 k s g e kids.len∧Eh k kids.list∧okF kids
def okF:Forest→Prop
 | .nil=>True
 | .cons _ t r=>okT t∧okF r
end
theorem Lu {k:Int} {s:List UInt8} {g:Bool} {e:Int} {kids:Forest}:okT (.mk k s g e kids) ↔ G3 k s g e kids.len∧Eh k kids.list∧okF kids:=by rw [okT]
theorem Fs {nm:List UInt8} {t:Tree} {r:Forest}:okF (.cons nm t r) ↔ okT t∧okF r:=by rw [okF]
theorem I6:okF .nil:=by rw [okF];trivial
theorem Jdq:∀ {a b:Forest},okF (a.app b) ↔ okF a∧okF b
 | .nil,b=>by simp [Forest.app,I6]
 | .cons nm t r,b=>by rw [Forest.app,Fs,Fs,Jdq (a:=r)];exact and_assoc.symm
theorem Jjp {nm:List UInt8} {k:Int} {s:List UInt8} {g:Bool} {e:Int} {kids r:Forest}:okF (.cons nm (.mk k s g e kids) r) ↔ G3 k s g e kids.len∧Eh k kids.list∧okF (kids.app r):=by
 rw [Fs,Lu,Jdq];constructor
 ·rintro ⟨⟨h1,h2,h3⟩,h4⟩;exact ⟨h1,h2,h3,h4⟩
 ·rintro ⟨h1,h2,h3,h4⟩;exact ⟨⟨h1,h2,h3⟩,h4⟩
theorem Jdo:∀ {f:Forest},okF f ↔ ∀ p∈f.list,okT p.2
 | .nil=>by simp [Forest.list,I6]
 | .cons nm t r=>by rw [Fs,Jdo (f:=r),Forest.list,List.forall_mem_cons]
theorem Sb (k:Int):Eh k []:=⟨by simp,by simp,fun _=>.nil⟩
theorem Jaa {k:Int} {p:KT} {l:List KT}:Eh k (p :: l) ↔ (k=5→p.1=[])∧valid p.1=true∧(k=6→∀ q,l.head? = some q→Op.bytesLess p.1 q.1=true)∧Eh k l:=by
 unfold Eh;constructor
 ·rintro ⟨h1,h2,h3⟩;refine ⟨fun hk=>h1 hk p List.mem_cons_self,h2 p List.mem_cons_self,fun hk q hq=>?_,fun hk q hq=>h1 hk q (List.mem_cons_of_mem _ hq),fun q hq=>h2 q (List.mem_cons_of_mem _ hq),fun hk=>(h3 hk).tail⟩;exact (List.pairwise_cons.1 (h3 hk)).1 q (List.mem_of_head? hq)
 ·rintro ⟨h1,h2,h3,h4,h5,h6⟩;refine ⟨fun hk q hq=>?_,fun q hq=>?_,fun hk=>List.pairwise_cons.2 ⟨fun q hq=>?_,h6 hk⟩⟩
  ·rcases List.mem_cons.1 hq with rfl | hq
   ·exact h1 hk
   ·exact h4 hk q hq
  ·rcases List.mem_cons.1 hq with rfl | hq
   ·exact h2
   ·exact h5 q hq
  ·cases l with
   | nil=>cases hq
   | cons r l =>
    have h7:=h3 hk r rfl;rcases List.mem_cons.1 hq with rfl | hq
    ·exact h7
    ·exact H8 h7 ((List.pairwise_cons.1 (h6 hk)).1 q hq)
def nxt (L:Nat):List Node→Nat→Option Nat
 | _,0=>some 0
 | [],_+1=>none
 | n :: r,o+1=>if n.many<0∨(L:Int)<n.many then none else (nxt L r (o+n.many.toNat)).map (· + 1)
theorem Ju3:∀ (m:Nat) (F:Forest),m≤F.len→∃ A B:Forest,F=A.app B∧A.len=m
 | 0,F,_=>⟨.nil,F,rfl,rfl⟩
 | m+1,.nil,h=>by simp [Forest.len] at h
 | m+1,.cons nm t r,h=>by
  obtain ⟨A,B,h1,h2⟩:=Ju3 m r (by simp only [Forest.len] at h;omega);exact ⟨.cons nm t A,B,by rw [Forest.app,← h1],by simp only [Forest.len,h2]⟩
theorem Qg {L:Nat}:∀ {v:List Node} {o k:Nat},nxt L v o=some k→∃ F:Forest,F.len=o∧v=F.enc ++ v.drop k∧F.enc.length=k
 | v,0,k,h=>by
  simp [nxt] at h;subst h;exact ⟨.nil,rfl,by simp [Bl],by simp [Bl]⟩
 | [],o+1,k,h=>by simp [nxt] at h
 | n :: r,o+1,k,h=>by
  simp only [nxt] at h;split at h
  ·cases h
  ·rename_i hn;obtain ⟨k',h',rfl⟩:=Option.map_eq_some_iff.1 h;obtain ⟨F,h1,h2,h3⟩:=Qg h';obtain ⟨A,B,rfl,hA⟩:=Ju3 n.many.toNat F omg;rw [Jrl] at h1;rw [Jqs] at h2 h3;refine ⟨.cons n.name (.mk n.kind n.s n.neg n.e A) B,by simp only [Forest.len];omega,?_,?_⟩
   ·rw [A0,A6,List.drop_succ_cons];have e:(⟨n.kind,A.len,n.name,n.s,n.neg,n.e⟩:Node)=n:=by
     have:(A.len:Int)=n.many:=by omega
     rw [this]
    rw [e];simp only [List.cons_append,List.append_assoc];congr 1;rw [← List.append_assoc];exact h2
   ·rw [A0,A6,List.length_append,List.length_cons];rw [List.length_append] at h3;omega
theorem Q3 {L:Nat}:∀ (n:Nat) (F:Forest) (r:List Node),F.enc.length≤n→F.enc.length≤L→nxt L (F.enc ++ r) F.len=some F.enc.length
 | _,.nil,r,_,_=>by simp [Forest.len,nxt,Bl]
 | 0,.cons nm t rest,r,h,_=>by
  have:=Et t nm;rw [A0,List.length_append] at h;omega
 | n+1,.cons nm (.mk k s g e kids) rest,r,h,hL=>by
  rw [A0,A6,List.length_append,List.length_cons] at h hL;have hk:=Jr2 kids;have ih:=Q3 (L:=L) n (kids.app rest) r (by rw [Jqs,List.length_append];omega) (by rw [Jqs,List.length_append];omega);rw [Jqs,Jrl,List.append_assoc,List.length_append] at ih;simp only [A0,A6,List.cons_append,List.append_assoc,Forest.len,nxt];rw [if_neg omg];simp only [Int.toNat_natCast];rw [Nat.add_comm rest.len,ih];simp only [Option.map_some,List.length_cons,List.length_append]
theorem Jcx {v:List Node}:nxt v.length v 1=some v.length ↔ ∃ nm t,v=Tree.enc nm t:=by
 constructor
 ·intro h;obtain ⟨F,h1,h2,h3⟩:=Qg h;rw [List.drop_length,List.append_nil] at h2
  match F,h1,h2 with
  | .cons nm t .nil,_,h2=>exact ⟨nm,t,by rw [h2,A0,Bl,List.append_nil]⟩
 ·rintro ⟨nm,t,rfl⟩;have:=Q3 (L:=(t.enc nm).length) (t.enc nm).length (.cons nm t .nil) [] (by rw [A0,Bl];simp) (by rw [A0,Bl];simp);simpa [A0,Bl,Forest.len] using this
def R0 (v:List Node):Prop:=∃ t,okT t∧v=t.enc []
open Classical in
noncomputable def Jw (v:List Node):Bool:=decide (R0 v)
theorem Iq {v:List Node}:Jw v=true ↔ R0 v:=by unfold Jw;exact @decide_eq_true_iff _ (Classical.propDecidable _)
end Go.LX
namespace Go.LX
open Go Go.RowKit Go.Proofs
attribute [local irreducible] Al SWP Bi
def nd (k:Int) (l:List KT):Tree:=.mk k [] false 0 (A1 l)
theorem Ea (l:List KT):(A1 l).list=l:=Hd l
theorem Jdh {k:Int} {l:List KT}:okT (nd k l) ↔ G3 k [] false 0 l.length∧Eh k l∧∀ p∈l,okT p.2:=by
 unfold nd;rw [Lu,Jdo,Ea,Ca]
def Ck (name:List UInt8) (t:Tree) (l:List KT):List KT:=l.map fun p=>if p.1=name then (name,t) else p
theorem Jhx (name:List UInt8) (t:Tree) (l:List KT):(Ck name t l).map (·.1)=l.map (·.1):=by
 unfold Ck;rw [List.map_map];apply List.map_congr_left;intro p _;simp only [Function.comp];split <;> simp_all
theorem Jkq {l m:List KT} (h:l.map (·.1)=m.map (·.1)):Rise l ↔ Rise m:=by
 have e:∀ l:List KT,Rise l ↔ (l.map (·.1)).Pairwise fun a b=>Op.bytesLess a b=true:=fun l=>by unfold Rise;rw [List.pairwise_map]
 rw [e,e,h]
theorem Ii {name:List UInt8} {t:Tree} {l:List KT} (h:Rise l):Rise (Ck name t l):=(Jkq (Jhx name t l)).2 h
theorem Mh {name:List UInt8} {t:Tree}:∀ {l:List KT},(∀ p∈l,p.1≠name)→Ck name t l=l
 | [],_=>rfl
 | p :: l,h=>by
  have:=Mh (t:=t) fun q hq=>h q (List.mem_cons_of_mem p hq)
  unfold Ck at this ⊢;rw [List.map_cons,if_neg (h p List.mem_cons_self),this]
theorem Y2 {name:List UInt8}:∀ {l:List KT},(∀ p∈l,p.1≠name)→A8 name l=l
 | [],_=>rfl
 | p :: l,h=>by rw [A8,if_neg (h p List.mem_cons_self),Y2 fun q hq=>h q (List.mem_cons_of_mem p hq)]
theorem Zx {name:List UInt8} {y:Tree}:∀ {l:List KT},Rise l→(∃ p∈l,p.1=name)→putL name y (A8 name l)=Ck name y l
 | [],_,h=>by obtain ⟨p,hp,_⟩:=h;cases hp
 | p :: l,hr,h=>by
  obtain ⟨h1,h2⟩:=List.pairwise_cons.1 hr;by_cases hp:p.1=name
  ·have hno:∀ q∈l,q.1≠name:=fun q hq e=>by
    have:=h1 q hq;rw [hp,e,E0] at this;cases this
   rw [A8,if_pos hp,Y2 hno];unfold Ck;rw [List.map_cons,if_pos hp];have:=Mh (t:=y) hno;unfold Ck at this;rw [this];cases l with
   | nil=>rfl
   | cons q l =>
    have:=h1 q List.mem_cons_self;rw [hp] at this;rw [putL,if_neg (by rw [L3 this];simp)]
  ·obtain ⟨q,hq,hqn⟩:=h;have hq':q∈l:=by
    rcases List.mem_cons.1 hq with rfl | hq
    ·exact absurd hqn hp
    ·exact hq
   have hlt:=h1 q hq';rw [hqn] at hlt;rw [A8,if_neg hp,putL,if_pos hlt,Zx h2 ⟨q,hq',hqn⟩];unfold Ck;rw [List.map_cons,if_neg hp]
theorem Lf {name:List UInt8} {y:Tree}:∀ {l:List KT},(∃ p∈l,p.1=name)→Ch name (Ck name y l)=some y
 | [],h=>by obtain ⟨p,hp,_⟩:=h;cases hp
 | p :: l,h=>by
  unfold Ck;rw [List.map_cons];by_cases hp:p.1=name
  ·rw [if_pos hp,Ch,if_pos rfl]
  ·rw [if_neg hp,Ch,if_neg hp];obtain ⟨q,hq,hqn⟩:=h;refine Lf ⟨q,?_,hqn⟩;rcases List.mem_cons.1 hq with rfl | hq
   ·exact absurd hqn hp
   ·exact hq
theorem G8 {name n':List UInt8} {y:Tree} (hn:n'≠name):∀ {l:List KT},Ch n' (Ck name y l)=Ch n' l
 | []=>rfl
 | p :: l=>by
  have ih:=G8 hn (y:=y) (l:=l);unfold Ck at ih ⊢;rw [List.map_cons];by_cases hp:p.1=name
  ·rw [if_pos hp,Ch,if_neg (by simp only;exact fun e=>hn e.symm),Ch,if_neg (by rw [hp];exact fun e=>hn e.symm),ih]
  ·rw [if_neg hp,Ch,Ch,ih]
theorem Xa (name:List UInt8) (y z:Tree) (l:List KT):Ck name z (Ck name y l)=Ck name z l:=by
 unfold Ck;rw [List.map_map];apply List.map_congr_left;intro p _;simp only [Function.comp];by_cases h:p.1=name <;> simp [h]
theorem Jbr {a b:List UInt8} (h:a≠b) (y z:Tree) (l:List KT):Ck a y (Ck b z l)=Ck b z (Ck a y l):=by
 unfold Ck;rw [List.map_map,List.map_map];apply List.map_congr_left;intro p _;simp only [Function.comp];by_cases h1:p.1=a
 ·have h2:¬ p.1=b:=fun e=>h (h1.symm.trans e)
  simp [h1,h,h2]
 ·by_cases h2:p.1=b
  ·simp [h2,Ne.symm h]
  ·simp [h1,h2]
def putT:Tree→Step→Tree→Tree
 | .mk _ _ _ _ kids,x,y=>if x.part=true then nd 5 (unn (kids.list.set x.n.toNat ([],y))) else nd 6 (putL x.name y (A8 x.name kids.list))
inductive Way (t:Tree) (x:Step) (w:Tree):Prop
 | list (l:List KT) (h:t=nd 5 l) (hp:x.part=true) (hn:∀ p∈l,p.1=[]) (hi:l[x.n.toNat]? = some ([],w))
 | obj (l:List KT) (h:t=nd 6 l) (hp:x.part=false) (hr:Rise l) (hi:Ch x.name l=some w)
theorem Jl3:∀ {l:List KT},(∀ p∈l,p.1=[])→unn l=l
 | [],_=>rfl
 | p :: l,h=>by
  have:=Jl3 fun q hq=>h q (List.mem_cons_of_mem p hq)
  unfold unn at this ⊢;rw [List.map_cons,this,← h p List.mem_cons_self]
theorem Jv {t:Tree} {x:Step} {w:Tree} (ht:okT t) (h:inT t x=.ok w):Way t x w:=by
 cases t with
 | mk k s g e kids =>
 rw [Lu] at ht;obtain ⟨h1,h2,h3⟩:=ht;unfold G3 at h1;cases hp:x.part
 ·by_cases hk:k=6
  ·subst hk;simp at h1;obtain ⟨rfl,rfl,rfl⟩:=h1;rw [Tp hp] at h;cases hf:Ch x.name kids.list with
   | none=>rw [hf] at h;cases h
   | some u =>
    rw [hf] at h;cases h;exact .obj kids.list (by unfold nd;rw [G1]) hp (h2.2.2 rfl) hf
  ·rw [Iw hp hk] at h;cases h
 ·by_cases hk:k=5
  ·subst hk;simp at h1;obtain ⟨rfl,rfl,rfl⟩:=h1;rw [Tm hp] at h;cases hf:kids.list[x.n.toNat]? with
   | none=>rw [hf] at h;cases h
   | some q =>
    rw [hf] at h;cases h;have hq:=h2.1 rfl q (List.mem_of_getElem? hf);refine .list kids.list (by unfold nd;rw [G1]) hp (h2.1 rfl) ?_;rw [hf];obtain ⟨a,b⟩:=q;simp only at hq;subst hq;rfl
  ·rw [Iz hp hk] at h;cases h
theorem Va {l:List KT} {x:Step} (hp:x.part=true):inT (nd 5 l) x=match l[x.n.toNat]? with
   | some p=>.ok p.2
   | none=>.error 6:=by unfold nd;rw [Tm hp,Ea]<;>rfl
theorem Vv {l:List KT} {x:Step} (hp:x.part=false):inT (nd 6 l) x=match Ch x.name l with
   | some t=>.ok t
   | none=>.error 6:=by unfold nd;rw [Tp hp,Ea]<;>rfl
theorem Gf {l:List KT} {i:Nat} {y:Tree} (h:∀ p∈l,p.1=[]):∀ p∈l.set i ([],y),p.1=[]:=by
 intro p hp;rcases List.mem_or_eq_of_mem_set hp with hp | rfl
 ·exact h p hp
 ·rfl
theorem Cr {l:List KT} {x:Step} {y:Tree} (hp:x.part=true) (hn:∀ p∈l,p.1=[]):putT (nd 5 l) x y=nd 5 (l.set x.n.toNat ([],y)):=by
 show (if x.part=true then nd 5 (unn ((A1 l).list.set x.n.toNat ([],y))) else _)=_;rw [if_pos hp,Ea,Jl3 (Gf hn)]
theorem C7 {l:List KT} {x:Step} {y w:Tree} (hp:x.part=false) (hr:Rise l) (hi:Ch x.name l=some w):putT (nd 6 l) x y=nd 6 (Ck x.name y l):=by
 show (if x.part=true then _ else nd 6 (putL x.name y (A8 x.name (A1 l).list)))=_;rw [if_neg (by simp [hp]),Ea,Zx hr];obtain ⟨p,h1,_,h2⟩:=H2 hi;exact ⟨p,h1,h2⟩
theorem Qq {name:List UInt8} {l:List KT} {w:Tree} (h:Ch name l=some w):∃ p∈l,p.1=name:=by
 obtain ⟨p,h1,_,h2⟩:=H2 h;exact ⟨p,h1,h2⟩
theorem L7 {t:Tree} {x:Step} {w y:Tree} (h:Way t x w):inT (putT t x y) x=.ok y:=by
 cases h with
 | list l h hp hn hi =>
  subst h;rw [Cr hp hn,Va hp,List.getElem?_set_self (List.getElem?_eq_some_iff.1 hi).1]
 | obj l h hp hr hi =>
  subst h;rw [C7 hp hr hi,Vv hp,Lf (Qq hi)]
theorem Np {t:Tree} {x x':Step} {w y:Tree} (h:Way t x w) (hx:Bc x) (hx':Bc x') (hne:x≠x'):inT (putT t x y) x'=inT t x':=by
 unfold Bc at hx hx';cases h with
 | list l h hp hn hi =>
  subst h;rw [if_pos hp] at hx;rw [Cr hp hn];cases hp':x'.part
  ·unfold nd;rw [Iw hp' de,Iw hp' de]
  ·rw [if_pos hp'] at hx';have hnn:x.n.toNat≠x'.n.toNat:=fun e=>hne (by
    cases x;cases x';simp_all;omega)
   rw [Va hp',Va hp',List.getElem?_set_ne hnn]
 | obj l h hp hr hi =>
  subst h;rw [if_neg (by simp [hp])] at hx;rw [C7 hp hr hi];cases hp':x'.part
  ·rw [if_neg (by simp [hp'])] at hx';have hnn:x'.name≠x.name:=fun e=>hne (by
    cases x;cases x';simp_all)
   rw [Vv hp',Vv hp',G8 hnn]
  ·unfold nd;rw [Iz hp' de,Iz hp' de]
theorem Ot {t:Tree} {x:Step} {w y z:Tree} (h:Way t x w):putT (putT t x y) x z=putT t x z:=by
 cases h with
 | list l h hp hn hi =>
  subst h;rw [Cr hp hn,Cr hp (Gf hn),Cr hp hn,List.set_set]
 | obj l h hp hr hi =>
  subst h;rw [C7 hp hr hi,C7 hp (Ii hr) (Lf (Qq hi)),C7 hp hr hi,Xa]
theorem J52 {t:Tree} {x x':Step} {w w' y y':Tree} (h:Way t x w) (h':Way t x' w') (hx:Bc x) (hx':Bc x') (hne:x≠x'):putT (putT t x y) x' y'=putT (putT t x' y') x y:=by
 unfold Bc at hx hx';cases h with
 | list l h hp hn hi =>
  subst h;cases h' with
  | list l' h' hp' hn' hi' =>
   rw [if_pos hp] at hx;rw [if_pos hp'] at hx';have hnn:x.n.toNat≠x'.n.toNat:=fun e=>hne (by
    cases x;cases x';simp_all;omega)
   rw [Cr hp hn,Cr hp' (Gf hn),Cr hp' hn,Cr hp (Gf hn),List.set_comm _ _ hnn]
  | obj l' h' hp' hr' hi'=>unfold nd at h';cases h'
 | obj l h hp hr hi =>
  subst h;cases h' with
  | list l' h' hp' hn' hi'=>unfold nd at h';cases h'
  | obj l' h' hp' hr' hi' =>
   have e:l=l':=by
    unfold nd at h';injection h' with _ _ _ _ h5
    have:=congrArg Forest.list h5;rw [Ea,Ea] at this;exact this
   subst e;rw [if_neg (by simp [hp])] at hx;rw [if_neg (by simp [hp'])] at hx';have hnn:x'.name≠x.name:=fun e=>hne (by
    cases x;cases x';simp_all)
   rw [C7 hp hr hi,C7 hp' (Ii hr) (by rw [G8 hnn];exact hi'),C7 hp' hr hi',C7 hp (Ii hr) (by rw [G8 (Ne.symm hnn)];exact hi),Jbr hnn]
theorem Ig {t:Tree} {x:Step} {w:Tree} (ht:okT t) (h:Way t x w):okT w:=by
 cases h with
 | list l h hp hn hi=>subst h;exact (Jdh.1 ht).2.2 _ (List.mem_of_getElem? hi)
 | obj l h hp hr hi =>
  subst h;obtain ⟨p,h1,h2,_⟩:=H2 hi;rw [← h2];exact (Jdh.1 ht).2.2 p h1
def setT:List Step→Tree→Tree→Except Nat Tree
 | [],_,u=>.ok u
 | x :: p,t,u=>match inT t x with
  | .error e=>.error e
  | .ok w=>match setT p w u with
   | .error e=>.error e
   | .ok y=>.ok (putT t x y)
theorem set_comm:∀ {p q:List Step} {t u v a b:Tree},okT t→okT u→okT v→(∀ x∈p,Bc x)→(∀ x∈q,Bc x)→B7 p q=true→setT p t u=.ok a→setT q t v=.ok b→∃ c,setT q a v=.ok c∧setT p b u=.ok c
 | [],q,_,_,_,_,_,_,_,_,_,_,h,_,_=>by cases q <;> simp [B7] at h
 | x :: p,[],_,_,_,_,_,_,_,_,_,_,h,_,_=>by simp [B7] at h
 | x :: p,x' :: q,t,u,v,a,b,ht,hu,hv,hp,hq,h,h1,h2=>by
  rw [setT] at h1 h2;cases hi:inT t x with
  | error e=>rw [hi] at h1;cases h1
  | ok w =>
  cases hi':inT t x' with
  | error e=>rw [hi'] at h2;cases h2
  | ok w' =>
  rw [hi] at h1;rw [hi'] at h2;simp only at h1 h2;cases hz:setT p w u with
  | error e=>rw [hz] at h1;cases h1
  | ok a1 =>
  cases hz':setT q w' v with
  | error e=>rw [hz'] at h2;cases h2
  | ok b1 =>
  rw [hz] at h1;rw [hz'] at h2;simp only at h1 h2;cases h1;cases h2;have hw:=Jv ht hi;have hw':=Jv ht hi';by_cases hxx:x=x'
  ·subst hxx;rw [hi] at hi';cases hi';have hse:F8 x x:=Dc.2 rfl;rw [B7] at h;simp only [hse,decide_true,Bool.not_true,Bool.false_or] at h;obtain ⟨c,c1,c2⟩:=set_comm (Ig ht hw) hu hv (fun a ha=>hp a (List.mem_cons_of_mem _ ha)) (fun a ha=>hq a (List.mem_cons_of_mem _ ha)) h hz hz';refine ⟨putT t x c,?_,?_⟩
   ·rw [setT,L7 hw];simp only;rw [c1];simp only;rw [Ot hw]
   ·rw [setT,L7 hw];simp only;rw [c2];simp only;rw [Ot hw]
  ·have hx:=hp x List.mem_cons_self;have hx':=hq x' List.mem_cons_self;refine ⟨putT (putT t x a1) x' b1,?_,?_⟩
   ·rw [setT,Np hw hx hx' hxx,hi'];simp only;rw [hz']
   ·rw [setT,Np hw' hx' hx (Ne.symm hxx),hi];simp only;rw [hz];simp only;rw [J52 hw hw' hx hx' hxx]
theorem Jjk {r:Regs} {K:L→Prop}:capV r K (.p .snil)=K (.p (.int .i64 0)):=(rfl)
theorem Jfu {s:List UInt8} {i:Nat} (h:i<s.length):Pk (s.take (i+1))=(Pk (s.take i) && (decide (48≤at_ s i) && decide (at_ s i≤57))):=by
 simp only [Pk,List.take_add_one,List.getElem?_eq_getElem h,List.all_append,Ql h];simp [Ja8]
theorem Qp {s:List UInt8} {i:Nat} (h:i<s.length) (hb:at_ s i<48∨57<at_ s i):Pk s=false:=by
 simp only [Pk,List.all_eq_false];rw [Ql h] at hb;exact ⟨s[i],List.getElem_mem h,by simp [Ja8];omega⟩
theorem Jj5 (s:List UInt8) (hs:s.length≤9223372036854775807):Det cx 190 [.p (.str s)] [] (.p (.bool (Pk s))) []:=by
 (refine bgo Tryz.func190 ?_;simp only [go_sem,simprocAttr]);refine SWP.loop (fun i:Nat=>⟨Ba 20 [(0,.p (.str s)),(3,.p (.int .i64 i))],[]⟩) (fun i=>i≤s.length∧Pk (s.take i)=true) (fun i=>s.length - i) 0 Jqe ⟨Nat.zero_le _,rfl⟩ ?_;rintro i ⟨h1,h2⟩;(refine lws ?_;simp only [go_sem,simprocAttr]);(repeat' (first | (apply iteI <;> intro h)|(refine Jqd ?_) | fail))
 ·exact (Qp (i:=i) omg omg).symm
 ·exact (Qp (i:=i) omg omg).symm
 ·refine ⟨i+1,⟨by omega,?_⟩,by omega,Jqe⟩;rw [Jfu omg,h2];simp;omega
 ·rw [List.take_of_length_le omg] at h2;exact h2.symm
theorem M0 (many:Int) (s:List UInt8) (g:Bool) (e:Int) (hs:s.length≤1000000) (he:-9223372036854775808≤e) (he':e≤9223372036854775807):Det cx 164 [.p (.agg [.int .i64 3,.int .i64 many,.str [],.str s,.bool g,.int .i64 e])] [] (.p (.bool (decide (many=0∧Yz s g e)))) []:=by
 (refine bgo Tryz.func164 ?_;simp only [go_sem,simprocAttr]);(repeat' (first | (apply iteI <;> intro h)|(refine Jqd ?_)|((refine Jqa (Jj5 _ omg) ?_);simp only [go_sem,simprocAttr]) | fail))
 all_goals (try simp (disch:=omega) only [Aa,Qs,Ab,Jlh,Mf,Ja0,Jcc,Ja7,Jak] at *)
 all_goals (try rw [show (↑s.length - 1:Int).toNat=s.length - 1 by omega] at *)
 all_goals (rw [Bool.eq_iff_iff])
 all_goals (have hs0:s.length=0 ↔ s=[]:=List.length_eq_zero_iff)
 all_goals (simp only [Yz,decide_eq_true_eq,beq_iff_eq,bne_iff_ne,Bool.false_eq_true,false_iff])
 all_goals (by_cases h0:s=[])
 all_goals (simp only [h0,if_true,if_false] at *)
 all_goals (first | omega | (simp_all <;> omega) | skip)
theorem Ja1 (k m:Int) (nm s:List UInt8) (g:Bool) (e:Int) (hs:s.length≤1000000) (he:-9223372036854775808≤e) (he':e≤9223372036854775807):Det cx 131 [.p (.agg [.int .i64 k,.int .i64 m,.str nm,.str s,.bool g,.int .i64 e])] [] (.p (.bool (decide (G3 k s g e m)))) []:=by
 by_cases hk:k=3
 ·subst hk;(refine bgo Tryz.func131 ?_;simp only [go_sem,simprocAttr]);(repeat' (first | ((refine Jqa (M0 m s g e hs he he') ?_);simp only [go_sem,simprocAttr]) | fail))
  all_goals (first | rfl | (simp [G3];done))
 ·(refine bgo Tryz.func131 ?_;simp only [go_sem,simprocAttr]);(repeat' (first | (apply iteI <;> intro h)|((refine Jqa (Cn s hs) ?_);simp only [go_sem,simprocAttr])|(exfalso;omega)))
  all_goals (rw [Bool.eq_iff_iff])
  all_goals (simp only [G3,decide_eq_true_eq,beq_iff_eq,Bool.and_eq_true,Bool.false_eq_true,false_iff])
  all_goals (first | omega | (simp_all;done)|(simp_all <;> omega))
def nxtR (v:List Node) (i o:Nat):Int:=match nxt v.length (v.drop i) o with
 | some k=>((i+k:Nat):Int)
 | none=>-1
theorem Jha (v:List Node) (i:Nat):nxtR v i 0=i:=by
 unfold nxtR;have:nxt v.length (v.drop i) 0=some 0:=by cases v.drop i <;> rfl
 rw [this];rfl
theorem Jmc {v:List Node} {i o:Nat} (h:v.length≤i) (ho:0<o):nxtR v i o = -1:=by
 unfold nxtR;rw [List.drop_eq_nil_of_le h];cases o with
 | zero=>omega
 | succ o=>rfl
theorem Jlc {v:List Node} {i o:Nat} {n:Node} (h:v[i]? = some n) (ho:0<o) (hb:n.many<0∨(v.length:Int)<n.many):nxtR v i o = -1:=by
 have hi:=(List.getElem?_eq_some_iff.1 h).1;unfold nxtR;rw [List.drop_eq_getElem_cons hi,(List.getElem?_eq_some_iff.1 h).2];cases o with
 | zero=>omega
 | succ o=>simp only [nxt];rw [if_pos hb]
theorem Jfk {v:List Node} {i o:Nat} {n:Node} (h:v[i]? = some n) (hb:¬ (n.many<0∨(v.length:Int)<n.many)):nxtR v i (o+1)=nxtR v (i+1) (o+n.many.toNat):=by
 have hi:=(List.getElem?_eq_some_iff.1 h).1;unfold nxtR;rw [List.drop_eq_getElem_cons hi,(List.getElem?_eq_some_iff.1 h).2];simp only [nxt];rw [if_neg hb];cases nxt v.length (v.drop (i+1)) (o+n.many.toNat) with
 | none=>rfl
 | some k=>simp only [Option.map_some];omega
theorem U5 {v:List Node} {i:Nat} {n:Node} (h:v[i]? = some n):(valL v)[i]? = some [.int .i64 n.kind,.int .i64 n.many,.str n.name,.str n.s,.bool n.neg,.int .i64 n.e]:=by
 simp [valL,h,Node.cells]
theorem Uv (v:List Node) (hv:v.length≤10000):Det cx 130 [.p (.sl (valL v)),.p (.int .i64 0)] [] (.p (.int .i64 (nxtR v 0 1))) []:=by
 (refine bgo Tryz.func130 ?_;simp only [go_sem,simprocAttr]);refine SWP.loop (fun x:Nat×Nat=>⟨Ba 41 [(0,.p (.sl (valL v))),(1,.p (.int .i64 x.1)),(5,.p (.int .i64 x.2))],[]⟩) (fun x=>x.1≤v.length∧x.2≤1+x.1 * 10000∧nxtR v x.1 x.2=nxtR v 0 1) (fun x=>v.length - x.1) (0,1) Jqe ⟨Nat.zero_le _,by simp,rfl⟩ ?_;rintro ⟨i,o⟩ ⟨h1,h2,h3⟩;simp only at h1 h2 h3;by_cases ho:o=0
 ·subst ho;rw [Jha] at h3;(refine lws ?_;simp only [go_sem,simprocAttr]);rw [h3]
 ·have c0:((0:Int)<(o:Int))=True:=eq_true omg;by_cases hi:¬ i<v.length
  ·have c1:((v.length:Int)≤(i:Int))=True:=eq_true omg;rw [Jmc omg omg] at h3;have hg:=c1;have c2:=c1;have c3:=c1;have w1:=c1;have w2:=c1;have w3:=c1;(refine lws ?_;simp only [go_sem,simprocAttr,A7,c0,c1]);rw [← h3]
  ·have hi:=Decidable.not_not.1 hi;have c1:((v.length:Int)≤(i:Int))=False:=eq_false omg;obtain ⟨n,hn⟩:∃ n,v[i]? = some n:=⟨_,List.getElem?_eq_getElem hi⟩
   have hg:=U5 hn;by_cases hb:n.many<0∨(v.length:Int)<n.many
   ·rw [Jlc hn omg hb] at h3;have w1:=c1;have w2:=c1;have w3:=c1;by_cases hb1:n.many<0
    ·have c2:(n.many<0)=True:=eq_true hb1;have c3:=c1;(refine lws ?_;simp only [go_sem,simprocAttr,A7,c0,c1,c2,hg]);rw [← h3]
    ·have c2:(n.many<0)=False:=eq_false hb1;have c3:((v.length:Int)<n.many)=True:=eq_true omg;(refine lws ?_;simp only [go_sem,simprocAttr,A7,c0,c1,c2,c3,hg]);rw [← h3]
   ·have c2:(n.many<0)=False:=eq_false omg;have c3:((v.length:Int)<n.many)=False:=eq_false omg;obtain ⟨o',rfl⟩:∃ o',o=o'+1:=⟨o - 1,by omega⟩
    rw [Jfk hn hb] at h3;have w1:IntKind.i64.wrap (((o'+1:Nat):Int) - 1)=(o':Int):=by rw [Aa omg omg];omega
    have w2:IntKind.i64.wrap ((o':Int)+n.many)=((o'+n.many.toNat:Nat):Int):=by rw [Aa omg omg];omega
    have w3:=wj1 (i:=i) omg;(refine lws ?_;simp only [go_sem,simprocAttr,A7,c0,c1,c2,c3,hg,w1,w2,w3]);exact ⟨(i+1,o'+n.many.toNat),⟨by simp only;omega,by simp only;omega,h3⟩,by simp only;omega,Jqe⟩
end Go.LX
