/- Package quote: Quote. -/
import Derived.Test.YtpdaccjebbbbaaaGreatDoorLxP
import Derived.Test.YtpdaccjebbbbaaaGreatDoorLxJ
import Derived.Lib.ItoaLen
import Derived.Lib.AtoiTie
set_option linter.unusedSimpArgs false
set_option linter.unusedVariables false
set_option linter.unusedSectionVars false
set_option linter.unnecessarySimpa false
set_option maxRecDepth 100000
set_option maxHeartbeats 2000000
namespace Go.LX
open Go Go.RowKit Go.Proofs
attribute [local irreducible] Al SWP Bi
theorem Jdx (a b:List UInt8):wrs (a ++ b)=wrs a ++ wrs b:=by simp [wrs]
def qr (r:Int):List UInt8:=match letR r with
 | some c=>[92,UInt8.ofNat c]
 | none=>if r<32 then [92,117,48,48] ++ (hex3 (r.toNat+256)).drop 1 else utf r
theorem Joz {c:Nat} (h:128≤c):wr c=[UInt8.ofNat c]:=by
 unfold wr;rw [if_neg omg,if_neg omg,if_neg omg,if_neg omg,if_neg omg,if_neg omg,if_neg omg,if_neg omg]
theorem wr_low {c:Nat} (h:c<128):wr c=qr c:=by
 have key:∀ m:Fin 128,wr m.val=qr m.val:=by decide
 exact key ⟨c,h⟩
theorem Ze:∀ l:List UInt8,(∀ c∈l,128≤c.toNat)→wrs l=l
 | [],_=>rfl
 | c :: l,h=>by
  show wr c.toNat ++ wrs l=c :: l;rw [Joz (h c List.mem_cons_self),Ze l fun d hd=>h d (List.mem_cons_of_mem _ hd)];simp
theorem Jfh {r:Int} (h:93≤r):letR r=none:=by
 unfold letR;rw [if_neg omg,if_neg omg,if_neg omg,if_neg omg,if_neg omg,if_neg omg,if_neg omg]
theorem Yx {s:List UInt8} {i:Nat} (h:rlen s i≠0) (hi:i<s.length):wrs ((s.drop i).take (rlen s i))=qr (code s i):=by
 by_cases h1:at_ s i<128
 ·rw [Q4.2 h1,(Gq h).2 h1,← wr_low h1];rw [List.drop_eq_getElem_cons hi,List.take_succ_cons,List.take_zero];show wr s[i].toNat ++ []=wr (at_ s i);rw [List.append_nil,Ql hi]
 ·have hc:128≤code s i:=by have:=(Gq h).1;omega
  have e:qr (code s i)=utf (code s i):=by
   unfold qr;rw [Jfh omg];simp only;rw [if_neg omg]
  rw [e,H5 h hi];apply Ze;intro c hm;rw [← H5 h hi] at hm;obtain ⟨x,hx,rfl⟩:=List.mem_map.1 hm;have hx2:128≤x∧x<256:=by
   revert hx;unfold utfC;rw [if_neg omg]
   repeat' split
   all_goals (simp;try omega)
  have:=B8 (c:=x) omg omg;omega
theorem K4 (es:List (List PV)) (s:List UInt8) (n:Nat) (he:es=bstr s) (hn:s.length=n) (h1:n≤1000000000) (h0:n≠0):Det cx 45 [.ptr 1000 0 0] [(500001,.row 5 1 es),(1000,.var 79 [.ptr 1000 0 0,.own 500001 0 n])] (.p (.str s)) [(1000,.var 79 [.ptr 1000 0 0,.junk])]:=by
 subst he;exact Eo s n hn h1 h0
@[simp] theorem bstr_34:bstr [34]=[[.int .u8 34]]:=rfl
theorem Jik (u:Nat):(hex3 u).length=3:=rfl
theorem Kt (s:List UInt8) (hs:s.length≤1000000) (hv:valid s=true):Det cx 58 [.p (.str s)] [] (.p (.str (refQ s))) []:=by
 (refine bgo Tryz.func58 ?_;simp only [go_sem,simprocAttr]);refine Jfl.mono fun m q hm'=>?_
 obtain ⟨rfl,es,rfl,hL⟩:=hm';simp only [go_sem,simprocAttr];(repeat' (first | ((refine Jqa (Hc 34) ?_);simp only [go_sem,simprocAttr]) | fail));refine SWP.loop (fun x:Nat×Nat=>⟨Ba 41 [(0,.p (.str s)),(3,.ptr 3 0 0),(4,.p (.mp es)),(12,.ptr 12 0 0)],[(12,.obj (.sit s x.1)),(10,.row 5 1 (bstr (34 :: wrs (s.take x.1)))),(3,.var 79 [.ptr 3 0 0,.own 10 0 (34 :: wrs (s.take x.1)).length])]⟩) (fun x=>x.1≤s.length∧s.length+1≤x.1+x.2∧vF s x.2 x.1=true) (fun x=>s.length - x.1) (0,s.length+1) Jqc ⟨by simp,by simp,hv⟩ ?_;rintro ⟨i,f⟩ ⟨h1,h2,h3⟩;simp only at h1 h2 h3;obtain ⟨g,rfl⟩:∃ g,f=g+1:=⟨f - 1,by omega⟩
 have hw:=Jlg (s.take i);have hl:(s.take i).length≤s.length:=List.length_take_le' ..
 rw [vF] at h3;by_cases hlt:¬ i<s.length
 ·have ht:s.take i=s:=List.take_of_length_le omg;rw [ht] at hw ⊢;(refine lws ?_;simp only [go_sem,simprocAttr,H6]);(repeat' (first | (apply iteI <;> intro h)|((first | (refine Jqa (Eb 34 _ _ (Di _) (by simp;omega)) ?_)|(refine Jqa (K4 _ (34 :: wrs s ++ [34]) _ (by simp [bstr]) sm (by simp;omega) sm) ?_));simp only [go_sem,simprocAttr])|(exfalso;omega)));rfl
 have hlt:=Decidable.not_not.1 hlt;rw [if_pos hlt] at h3;have hd:=F1 s i;have hrl:=M4 s i hlt;by_cases hr:rlen s i=0
 ·rw [if_pos hr] at h3;cases h3
 rw [if_neg hr] at h3 hd;have hR:=Fm hr;unfold Cy at hR;have hq:wrs (s.take (i+rlen s i))=wrs (s.take i) ++ qr (code s i):=by
  rw [List.take_add,Jdx,Yx hr hlt]
 have hw0:=wi0 (c:=code s i) omg;have hw1:IntKind.i64.wrap ((code s i:Int)+256)=((code s i+256:Nat):Int):=by rw [Aa omg omg];omega
 rcases hL (code s i) with ⟨hlr,hmf⟩ | ⟨j,c,hlr,hc,hmf⟩
 ·(refine lws ?_;simp only [go_sem,simprocAttr,H6,hd,hmf]);(repeat' (first | (apply iteI <;> intro h)|((first | (refine Jqa (Bx _ _ _ (by simp [bstr]) (by simp;omega) (by simp [hex3])) ?_)|(refine Jqa (Ph (code s i+256) omg omg) ?_)|(refine Jqa (Ed _ _ _ (Di _) (by simp;omega) omg omg) ?_));simp only [go_sem,simprocAttr,hw0,hw1,Jik])|(exfalso;omega)))
  ·have hqr:qr (code s i)=[92,117,48,48] ++ (hex3 (code s i+256)).drop 1:=by
    unfold qr;rw [hlr];simp only;rw [if_pos omg];rfl
   have hrow:bstr (34 :: wrs (s.take (i+rlen s i)))=bstr (34 :: wrs (s.take i)) ++ bstr [92,117,48,48] ++ bstr ((hex3 (code s i+256)).drop 1):=by
    rw [hq,hqr,← List.cons_append,Gz,Gz,List.append_assoc]
   have hlen:(wrs (s.take (i+rlen s i))).length+1=(wrs (s.take i)).length+1+4+((hex3 (code s i+256)).drop 1).length:=by rw [hq,hqr];simp [hex3]
   refine ⟨(i+rlen s i,g),⟨by simp only;omega,by simp only;omega,h3⟩,by simp only;omega,?_⟩;simp only [List.length_cons];rw [hrow,hlen];exact Jqc
  ·have hqr:qr (code s i)=utf (code s i):=by
    unfold qr;rw [hlr];simp only;rw [if_neg omg]
   have hrow:bstr (34 :: wrs (s.take (i+rlen s i)))=bstr (34 :: wrs (s.take i)) ++ bstr (utf (code s i)):=by
    rw [hq,hqr,← List.cons_append,Gz]
   have hlen:(wrs (s.take (i+rlen s i))).length+1=(wrs (s.take i)).length+1+(utf (code s i)).length:=by rw [hq,hqr];simp;omega
   refine ⟨(i+rlen s i,g),⟨by simp only;omega,by simp only;omega,h3⟩,by simp only;omega,?_⟩;simp only [List.length_cons];rw [hrow,hlen];exact Jqc
 ·(refine lws ?_;simp only [go_sem,simprocAttr,H6,hd,hmf,hd,hmf]);(repeat' (first | (apply iteI <;> intro h)|((refine Jqa (Eb _ _ _ (by simp [bstr]) (by simp;omega)) ?_);simp only [go_sem,simprocAttr])|(exfalso;omega)));have hqr:qr (code s i)=[92,UInt8.ofNat c]:=by
   unfold qr;rw [hlr]
  have hrow:bstr (34 :: wrs (s.take (i+rlen s i)))=bstr (34 :: wrs (s.take i)) ++ [[.int .u8 92]] ++ [[.int .u8 c]]:=by
   rw [hq,hqr,← List.cons_append,Gz,List.append_assoc];simp [bstr];omega
  have hlen:(wrs (s.take (i+rlen s i))).length+1=(wrs (s.take i)).length+1+1+1:=by rw [hq,hqr];simp
  refine ⟨(i+rlen s i,g),⟨by simp only;omega,by simp only;omega,h3⟩,by simp only;omega,?_⟩;simp only [List.length_cons];rw [hrow,hlen];exact Jqc
def utfs (rs:List Int):List UInt8:=rs.flatMap utf
def wq (rs:List Int):List UInt8:=rs.flatMap qr
def AllR (rs:List Int):Prop:=∀ r∈rs,Cy r
theorem Ki (r:Int) (rs:List Int):utfs (r :: rs)=utf r ++ utfs rs:=rfl
theorem U4 (r:Int) (rs:List Int):wq (r :: rs)=qr r ++ wq rs:=rfl
theorem J9r (a b:List Int):utfs (a ++ b)=utfs a ++ utfs b:=by simp [utfs]
theorem AllR.app {a b:List Int} (h1:AllR a) (h2:AllR b):AllR (a ++ b):=fun r h=>(List.mem_append.1 h).elim (h1 r) (h2 r)
theorem AllR.tail {r:Int} {rs:List Int} (h:AllR (r :: rs)):AllR rs:=fun x hx=>h x (List.mem_cons_of_mem _ hx)
theorem AllR.head {r:Int} {rs:List Int} (h:AllR (r :: rs)):Cy r:=h r List.mem_cons_self
theorem O2:∀ (rs:List Int) (s:List UInt8) (f i:Nat),AllR rs→s.drop i=utfs rs→vF s f i=true
 | _,_,0,_,_,_=>rfl
 | [],s,f+1,i,_,h=>by
  have hl:=congrArg List.length h;simp [utfs] at hl;rw [vF,if_neg omg]
 | r :: rs,s,f+1,i,ha,h=>by
  rw [Ki] at h;obtain ⟨h1,_⟩:=Rp ha.head (utfs rs);rw [← h,Ny,Nat.add_zero] at h1;have hp:=I4 r;have hd:s.drop (i+rlen s i)=utfs rs:=by
   rw [← List.drop_drop,h,h1,List.drop_left]
  rw [vF];split
  ·rw [if_neg omg];exact O2 rs s f _ ha.tail hd
  ·rfl
theorem Pi:∀ (f:Nat) (s:List UInt8) (i:Nat),s.length<i+f→vF s f i=true→∃ rs,AllR rs∧s.drop i=utfs rs
 | 0,s,i,hf,_=>⟨[],by simp [AllR],List.drop_eq_nil_of_le omg⟩
 | f+1,s,i,hf,h=>by
  rw [vF] at h;split at h
  ·rename_i hlt;split at h
   ·cases h
   ·rename_i hr;obtain ⟨rs,ha,hd⟩:=Pi f s _ omg h;refine ⟨(code s i:Int) :: rs,?_,?_⟩
    ·intro r hm;rcases List.mem_cons.1 hm with rfl | hm
     ·exact Fm hr
     ·exact ha r hm
    ·rw [Ki,H5 hr hlt,← hd,← List.drop_drop,List.take_append_drop]
  ·exact ⟨[],by simp [AllR],List.drop_eq_nil_of_le omg⟩
theorem Jb {s:List UInt8}:valid s=true ↔ ∃ rs,AllR rs∧s=utfs rs :=
 ⟨fun h=>by
  obtain ⟨rs,ha,hd⟩:=Pi (s.length+1) s 0 omg h;exact ⟨rs,ha,hd⟩,fun ⟨rs,ha,e⟩=>O2 rs s _ 0 ha (by rw [List.drop_zero];exact e)⟩
theorem J7d {a b:List UInt8} (h1:valid a=true) (h2:valid b=true):valid (a ++ b)=true:=by
 obtain ⟨x,hx,rfl⟩:=Jb.1 h1;obtain ⟨y,hy,rfl⟩:=Jb.1 h2;exact Jb.2 ⟨x ++ y,hx.app hy,(J9r x y).symm⟩
theorem Jn1 {r:Int} (h:Cy r):wrs (utf r)=qr r:=by
 obtain ⟨h1,h2⟩:=Rp h [];rw [List.append_nil] at h1 h2;have hp:=I4 r;have:=Yx (s:=utf r) (i:=0) omg omg;rw [h1,List.drop_zero,List.take_length,h2] at this;exact this
theorem Ru:∀ rs:List Int,AllR rs→wrs (utfs rs)=wq rs
 | [],_=>rfl
 | r :: rs,h=>by rw [Ki,U4,Jdx,Jn1 h.head,Ru rs h.tail]
theorem Tu (r:Int):(letR r=none∧r≠34∧r≠92)∨∃ c,letR r=some c∧Hr c=some r.toNat∧0≤r∧c<256:=by
 unfold letR;by_cases c1:r=34
 ·subst c1;exact .inr ⟨34,rfl,rfl,by decide,by decide⟩
 by_cases c2:r=92
 ·subst c2;exact .inr ⟨92,rfl,rfl,by decide,by decide⟩
 by_cases c3:r=8
 ·subst c3;exact .inr ⟨98,rfl,rfl,by decide,by decide⟩
 by_cases c4:r=12
 ·subst c4;exact .inr ⟨102,rfl,rfl,by decide,by decide⟩
 by_cases c5:r=10
 ·subst c5;exact .inr ⟨110,rfl,rfl,by decide,by decide⟩
 by_cases c6:r=13
 ·subst c6;exact .inr ⟨114,rfl,rfl,by decide,by decide⟩
 by_cases c7:r=9
 ·subst c7;exact .inr ⟨116,rfl,rfl,by decide,by decide⟩
 refine .inl ⟨by simp [*],c1,c2⟩
theorem R9 (s:List UInt8):(refQ s).length=(wrs s).length+2:=by simp [refQ]
theorem Xn:∀ (f:Nat) (s:List UInt8) (i:Nat) (out:List UInt8),1≤i→((uqF s f i out).2.2=0∧2≤(uqF s f i out).2.1∧(uqF s f i out).2.1≤s.length)∨((uqF s f i out).2.2=1∧(uqF s f i out).1=[]∧(uqF s f i out).2.1≤s.length)
 | 0,s,i,out,_=>.inr ⟨rfl,rfl,Nat.le_refl _⟩
 | f+1,s,i,out,h1=>by
  rw [uqF];split
  ·split
   ·exact .inl ⟨rfl,by simp only;omega,by simp only;omega⟩
   ·split
    ·exact .inr ⟨rfl,rfl,by simp only;omega⟩
    ·exact Xn f s _ _ omg
  ·exact .inr ⟨rfl,rfl,Nat.le_refl _⟩
theorem Jcv (s:List UInt8):((uq s).2.2=0∧2≤(uq s).2.1∧(uq s).2.1≤s.length)∨((uq s).2.2=1∧(uq s).1=[]∧(uq s).2.1≤s.length):=by
 unfold uq;split
 ·exact .inr ⟨rfl,rfl,Nat.zero_le _⟩
 ·exact Xn _ _ _ _ omg
theorem Jo6 {r:Int} (h:32≤r) (h1:r≠34) (h2:r≠92):qr r=utf r:=by
 rcases Tu r with ⟨hl,_⟩ | ⟨c,hl,_⟩
 ·unfold qr;rw [hl];simp only;rw [if_neg omg]
 ·exfalso;unfold letR at hl;rw [if_neg omg,if_neg omg,if_neg omg,if_neg omg,if_neg omg,if_neg omg,if_neg omg] at hl;cases hl
theorem Jnq (r:Int):(qr r).length≤6:=by
 have:=Od r;unfold qr;split
 ·simp
 ·split
  ·simp [hex3]
  ·omega
theorem Jib {r:Int} (h0:0≤r) (h:r<128):(utf r).length=1:=by rw [D6,Nb ⟨h0,h⟩];rfl
theorem Jfn {c r:Nat} (h:Hr c=some r):(qr r).length≤2∧r<128:=by
 unfold Hr at h
 repeat' split at h
 all_goals first | (cases h;done)|(obtain rfl:=Option.some.inj h;exact ⟨by decide,by decide⟩)
theorem Jpo {s:List UInt8} {i:Nat} (hi:i<s.length) (h0:(tk s i).2≠0) (h1:at_ s i≠34) (h2:32≤at_ s i):∃ r,Cy r∧(tk s i).1=utf r∧(utf r).length≤(tk s i).2∧(qr r).length≤(tk s i).2:=by
 unfold tk at h0 ⊢;split
 ·rename_i h92;rw [if_pos h92] at h0;generalize s.drop i=d at *
  have e2:(escR d).2≠0:=fun e=>h0 (by unfold escS;rw [if_pos e])
  have eS:escS d=(utf (escR d).1,(escR d).2):=by unfold escS;rw [if_neg e2]
  refine ⟨(escR d).1,O6 e2,by rw [eS],?_⟩;rw [eS];simp only;have hu:=Od (escR d).1;have hq:=Jnq (escR d).1;unfold escR at e2 hu hq ⊢;split at e2
  ·exact absurd rfl e2
  rename_i hl;rw [if_neg hl] at hu hq ⊢;cases hs:Hr (at_ d 1) with
  | some r =>
   obtain ⟨k1,k2⟩:=Jfn hs;simp only;rw [Jib omg omg];exact ⟨by decide,k1⟩
  | none =>
   rw [hs] at e2 hu hq;simp only at e2 hu hq ⊢;split at e2
   ·exact absurd rfl e2
   rename_i c1;rw [if_neg c1] at hu hq ⊢;split at e2
   ·rename_i c2;rw [if_pos c2] at hu hq ⊢;simp only at hu hq ⊢;omega
   rename_i c2;rw [if_neg c2] at hu hq ⊢;split at e2
   ·exact absurd rfl e2
   rename_i c3;rw [if_neg c3] at hu hq ⊢;simp only at hu hq ⊢;omega
 ·rename_i h92;rw [if_neg h92] at h0;simp only at h0 ⊢;have hcs:=Gq (s:=s) (i:=i) h0;have hl:=Uz h0 hi;refine ⟨code s i,Fm h0,(H5 h0 hi).symm,by omega,?_⟩;rw [Jo6 omg omg omg];omega
theorem Tr:∀ (f:Nat) (s:List UInt8) (i:Nat) (rs:List Int) (x:List UInt8) (n:Nat),1≤i→AllR rs→(utfs rs).length+1≤i→(wq rs).length+1≤i→uqF s f i (utfs rs)=(x,n,0)→∃ ts,AllR ts∧x=utfs ts∧(utfs ts).length+2≤n∧(wq ts).length+2≤n
 | 0,s,i,rs,x,n,_,_,_,_,h=>by simp [uqF] at h
 | f+1,s,i,rs,x,n,h1,ha,hu,hw,h=>by
  rw [uqF] at h;split at h
  ·rename_i hi;split at h
   ·simp only [Prod.mk.injEq] at h;obtain ⟨rfl,rfl,_⟩:=h;exact ⟨rs,ha,rfl,by omega,by omega⟩
   ·rename_i h34;split at h
    ·simp at h
    ·rename_i hb;obtain ⟨r,k1,k2,k3,k4⟩:=Jpo hi omg h34 omg;rw [k2,show utfs rs ++ utf r=utfs (rs ++ [r]) by simp [utfs]] at h;have eu:utfs (rs ++ [r])=utfs rs ++ utf r:=by simp [utfs]
     have ew:wq (rs ++ [r])=wq rs ++ qr r:=by simp [wq]
     refine Tr f s _ (rs ++ [r]) x n omg (ha.app fun y hy=>?_) (by rw [eu,List.length_append];omega) (by rw [ew,List.length_append];omega) h;rw [List.mem_singleton.1 hy];exact k1
  ·simp at h
theorem Jmq {s x:List UInt8} {n:Nat} (h:uq s=(x,n,0)):valid x=true∧x.length+2≤n∧(refQ x).length≤n∧n≤s.length:=by
 have he:=Jcv s;rw [h] at he;simp only at he;unfold uq at h;split at h
 ·simp at h
 ·obtain ⟨ts,ha,rfl,h1,h2⟩:=Tr _ s 1 [] x n omg (by simp [AllR]) (by simp [utfs]) (by simp [wq]) h;refine ⟨Jb.2 ⟨ts,ha,rfl⟩,h1,?_,by omega⟩;rw [R9,Ru ts ha];exact h2
def Jdz (l:List UInt8):Prop:=∀ i,i<l.length→32≤at_ l i∧(at_ l i=34→1≤i∧at_ l (i - 1)=92)
theorem Jdz.app {a b:List UInt8} (h1:Jdz a) (h2:Jdz b):Jdz (a ++ b):=by
 intro i hi;rw [List.length_append] at hi;by_cases h:i<a.length
 ·rw [Jx h];refine ⟨(h1 i h).1,fun e=>?_⟩;obtain ⟨k1,k2⟩:=(h1 i h).2 e;exact ⟨k1,by rw [Jx omg];exact k2⟩
 ·rw [Ib omg];have hb:=h2 (i - a.length) omg;refine ⟨hb.1,fun e=>?_⟩;obtain ⟨k1,k2⟩:=hb.2 e;refine ⟨by omega,?_⟩;rw [Ib omg,show i - 1 - a.length=i - a.length - 1 by omega];exact k2
def figs (great:Bool):List UInt8:=if great then [48,49,50,51,52,53,54,55,56,57,65,66,67,68,69,70] else [48,49,50,51,52,53,54,55,56,57,97,98,99,100,101,102]
def fig (great:Bool) (d:Nat):UInt8:=(figs great).getD d 0
def codeS (n:Nat) (great:Bool):List UInt8:=[92,117,fig great (n / 4096 % 16),fig great (n / 256 % 16),fig great (n / 16 % 16),fig great (n % 16)]
def Dv:Step:=⟨false,[],0⟩
def Bw (s:List UInt8):Step×Nat :=
 if s.take 1=[46] then
  if 0<Dm (s.drop 1) then (⟨false,(s.drop 1).take (Dm (s.drop 1)),0⟩,Dm (s.drop 1)+1)
  else if (uq (s.drop 1)).2.2≠0∨isWd (uq (s.drop 1)).1∨refQ (uq (s.drop 1)).1≠(s.drop 1).take (uq (s.drop 1)).2.1 then (Dv,0)
  else (⟨false,(uq (s.drop 1)).1,0⟩,(uq (s.drop 1)).2.1+1)
 else (Dv,0)
theorem Jni {s:List UInt8} (h:(uq s).2.2=0):valid (uq s).1=true∧(uq s).1.length+2≤(uq s).2.1∧(refQ (uq s).1).length≤(uq s).2.1∧(uq s).2.1≤s.length :=
 Jmq (s:=s) (x:=(uq s).1) (n:=(uq s).2.1) (by rw [← h])
theorem Jl8 (s:List UInt8):valid (uq s).1=true∧(uq s).1.length≤s.length∧(uq s).2.1≤s.length:=by
 rcases Jcv s with h | ⟨h1,h2,h3⟩
 ·have:=Jni h.1;exact ⟨this.1,by omega,by omega⟩
 ·rw [h2];exact ⟨rfl,Nat.zero_le _,h3⟩
theorem Ja3 (s:List UInt8) (hs:s.length≤1000000) (h0:¬ s.take 1=[46]):Det cx 97 [.p (.str s)] [] (.tup [.agg Dv.cells,.int .i64 0]) []:=by
 (refine bgo Tryz.func97 ?_;simp only [go_sem,simprocAttr]);(repeat' (first | (apply iteI <;> intro h)|((refine Jqa (Bj s [46] hs sm) ?_);simp only [go_sem,simprocAttr]) | fail))
 ·rfl
 ·exact absurd h0 (by assumption)
theorem Vu (s:List UInt8) (hs:s.length≤1000000) (h0:s.take 1=[46]) (h2:0<Dm (s.drop 1)):Det cx 97 [.p (.str s)] [] (.tup [.agg (Step.cells ⟨false,(s.drop 1).take (Dm (s.drop 1)),0⟩),.int .i64 (Dm (s.drop 1)+1:Nat)]) []:=by
 have h1:1≤s.length:=by cases s <;> simp at h0 ⊢
 have hw:=P3 (s.drop 1);rw [List.length_drop] at hw;(refine bgo Tryz.func97 ?_;simp only [go_sem,simprocAttr,wi1 (i:=Dm (s.drop 1)) omg]);(repeat' (first | (apply iteI <;> intro h)|(refine Jqd ?_)|((first | (refine Jqa (Bj s [46] hs sm) ?_)|(refine Jqa (Nw (s.drop 1) (by simp;omega)) ?_));simp only [go_sem,simprocAttr,h0,wi1 (i:=Dm (s.drop 1)) omg])|(exfalso;omega)));rfl
theorem Ev (s:List UInt8) (hs:s.length≤1000000):Det cx 97 [.p (.str s)] [] (.tup [.agg (Bw s).1.cells,.int .i64 (Bw s).2]) []:=by
 by_cases h0:s.take 1=[46]
 ·have h1:1≤s.length:=by cases s <;> simp at h0 ⊢
  by_cases h2:0<Dm (s.drop 1)
  ·have e:Bw s=(⟨false,(s.drop 1).take (Dm (s.drop 1)),0⟩,Dm (s.drop 1)+1):=by unfold Bw;rw [if_pos h0,if_pos h2]
   rw [e];exact Vu s hs h0 h2
  ·obtain ⟨u1,u2,u3⟩:=Jl8 (s.drop 1);rw [List.length_drop] at u2 u3;have hw:Dm (s.drop 1)=0:=by omega
   have w1:IntKind.i64.wrap (1+((uq (s.drop 1)).2.1:Int))=(((uq (s.drop 1)).2.1+1:Nat):Int):=by rw [Int.add_comm];exact wi1 omg
   have no:((uq (s.drop 1)).2.2≠0∨isWd (uq (s.drop 1)).1∨refQ (uq (s.drop 1)).1≠(s.drop 1).take (uq (s.drop 1)).2.1)→Bw s=(Dv,0):=fun h=>by
    unfold Bw;rw [if_pos h0,if_neg h2,if_pos h]
   (refine bgo Tryz.func97 ?_;simp only [go_sem,simprocAttr,wi1 (i:=(uq (s.drop 1)).2.1) omg]);(repeat' (first | (apply iteI <;> intro h)|(refine Jqd ?_)|((first | (refine Jql ?_)|(refine Jqa (Bj s [46] hs sm) ?_)|(refine Jqa (Nw (s.drop 1) (by simp;omega)) ?_)|(refine Jqa (Ts (s.drop 1) (by simp;omega)) ?_)|(refine Jqe (Er (uq (s.drop 1)).1 omg) ?_)|(refine Jqe (Kt (uq (s.drop 1)).1 omg u1) ?_));simp only [go_sem,simprocAttr,h0,hw,w1,wi1 (i:=(uq (s.drop 1)).2.1) omg]) | fail))
   ·rw [no (.inl omg)];exact ⟨rfl,rfl⟩
   ·rw [no (.inr (.inl (by assumption)))];exact ⟨rfl,rfl⟩
   ·rw [no (.inr (.inr (by assumption)))];exact ⟨rfl,rfl⟩
   ·have e:Bw s=(⟨false,(uq (s.drop 1)).1,0⟩,(uq (s.drop 1)).2.1+1):=by
     unfold Bw;rw [if_pos h0,if_neg h2,if_neg];rintro (h | h | h)
     ·omega
     ·contradiction
     ·exact absurd h (by assumption)
    rw [e];exact ⟨rfl,rfl⟩
 ·have e:Bw s=(Dv,0):=by unfold Bw;rw [if_neg h0]
  rw [e];exact Ja3 s hs h0
def eI (s:List UInt8):Int:=Lib.indexByte s (93:Int).toNat.toUInt8
def pT (s:List UInt8):List UInt8:=(s.drop 1).take ((eI s).toNat - 1)
theorem Jea {s:List UInt8} {e:Nat} (h:eI s=e):e<s.length:=by
 have:=(Lib.indexByte_some h).1;exact (List.getElem?_eq_some_iff.1 this).1
def Ce (s:List UInt8):Step×Nat :=
 if s.take 1=[91]∧2≤eI s∧eI s≤8 then
  match Lib.atoiAll (pT s) with
  | .ok n=>if 0≤n∧n≤1000000∧Lib.itoa n=pT s then (⟨true,[],n⟩,(eI s).toNat+1) else (Dv,0)
  | _=>(Dv,0)
 else (Dv,0)
theorem Gg (s:List UInt8):Det cx 128 [.p (.str s),.p (.int .u8 93)] [] (.p (.int .i64 (eI s))) []:=Fu s 93
theorem Jhg (s:List UInt8) (hs:s.length≤1000000) (h0:¬ (s.take 1=[91]∧2≤eI s∧eI s≤8)):Det cx 99 [.p (.str s)] [] (.tup [.agg Dv.cells,.int .i64 0]) []:=by
 (refine bgo Tryz.func99 ?_;simp only [go_sem,simprocAttr]);(repeat' (first | (apply iteI <;> intro h)|(refine Jqd ?_)|((first | (refine Jqa (Gg s) ?_)|(refine Jqa (Bj s [91] hs sm) ?_));simp only [go_sem,simprocAttr]) | fail))
 ·rfl
 ·rfl
 ·rfl
 ·exact absurd ⟨Decidable.not_not.1 (by assumption),by omega,by omega⟩ h0
theorem Q1 (s:List UInt8) (hs:s.length≤1000000) (e:Nat) (he:eI s=e) (h0:s.take 1=[91]) (h1:2≤e) (h2:e≤8) (h3:∃ a,Qh ((s.drop 1).take (e - 1))=.tup [.int .i64 a,.ifc]):Det cx 99 [.p (.str s)] [] (.tup [.agg Dv.cells,.int .i64 0]) []:=by
 obtain ⟨a,h3⟩:=h3;have hl:=Jea he;(refine bgo Tryz.func99 ?_;simp only [go_sem,simprocAttr]);(repeat' (first | (apply iteI <;> intro h)|(refine Jqd ?_)|((first | (refine Jql ?_)|(refine Jqa (Gg s) ?_)|(refine Jqa (Bj s [91] hs sm) ?_)|(refine Jqa (U9 ((s.drop 1).take (e - 1)) (by simp;omega)) ?_));simp only [go_sem,simprocAttr,h0,he,h3])|(exfalso;omega)));rfl
theorem Jgb (s:List UInt8) (hs:s.length≤1000000) (e:Nat) (he:eI s=e) (h0:s.take 1=[91]) (h1:2≤e) (h2:e≤8) (n:Int) (hn:n≤9223372036854775807) (hn0:-9223372036854775808≤n) (h3:Qh ((s.drop 1).take (e - 1))=.tup [.int .i64 n,.nifc]):Det cx 99 [.p (.str s)] [] (.tup [.agg (if 0≤n∧n≤1000000∧Lib.itoa n=(s.drop 1).take (e - 1) then (⟨true,[],n⟩,e+1) else (Dv,0):Step×Nat).1.cells,.int .i64 (if 0≤n∧n≤1000000∧Lib.itoa n=(s.drop 1).take (e - 1) then (⟨true,[],n⟩,e+1) else (Dv,0):Step×Nat).2]) []:=by
 have hl:=Jea he;(refine bgo Tryz.func99 ?_;simp only [go_sem,simprocAttr,wi1 (i:=e) omg]);(repeat' (first | (apply iteI <;> intro h)|(refine Jqd ?_)|((first | (refine Jql ?_)|(refine Jqa (Gg s) ?_)|(refine Jqa (Bj s [91] hs sm) ?_)|(refine Jqa (U9 ((s.drop 1).take (e - 1)) (by simp;omega)) ?_)|(refine Jqe (N0 n hn0 hn) ?_));simp only [go_sem,simprocAttr,h0,he,h3,wi1 (i:=e) omg])|(exfalso;omega)))
 ·rw [if_neg omg];exact ⟨rfl,rfl⟩
 ·rw [if_neg (fun h=>absurd h.2.2 (by assumption))];exact ⟨rfl,rfl⟩
 ·rw [if_neg omg];exact ⟨rfl,rfl⟩
 ·rw [if_pos ⟨by omega,by omega,Decidable.not_not.1 (by assumption)⟩];exact ⟨rfl,rfl⟩
theorem Jr (s:List UInt8) (hs:s.length≤1000000):Det cx 99 [.p (.str s)] [] (.tup [.agg (Ce s).1.cells,.int .i64 (Ce s).2]) []:=by
 by_cases h:s.take 1=[91]∧2≤eI s∧eI s≤8
 ·obtain ⟨h0,h1,h2⟩:=h;obtain ⟨e,he⟩:∃ e:Nat,eI s=e:=⟨(eI s).toNat,by omega⟩
  have hl:=Jea he;have hT:pT s=(s.drop 1).take (e - 1):=by unfold pT;rw [he];rfl
  unfold Ce;rw [if_pos ⟨h0,h1,h2⟩,hT,he];cases ha:Lib.atoiAll ((s.drop 1).take (e - 1)) with
  | ok n =>
   have hb:=Lib.atoiAll_bounds ha;exact Jgb s hs e he h0 omg omg n hb.2 hb.1 (by unfold Qh;rw [ha])
  | range=>exact Q1 s hs e he h0 omg omg ⟨_,by unfold Qh;rw [ha]⟩
  | _=>exact Q1 s hs e he h0 omg omg ⟨_,by unfold Qh;rw [ha]⟩
 ·unfold Ce;rw [if_neg h];exact Jhg s hs h
end Go.LX
namespace Go.LX
open Go Go.RowKit Go.Proofs
def PLe (x y:PV):Prop:=x=y∨(x=.snil∧y=.sl [])
def psLe:List PV→List PV→Prop
 | [],[]=>True
 | x :: xs,y :: ys=>PLe x y∧psLe xs ys
 | _,_=>False
theorem PLe.refl (x:PV):PLe x x:=.inl rfl
theorem PLe.nil:PLe .snil (.sl []):=.inr ⟨rfl,rfl⟩
theorem PLe.rep {w:World} {Im:Nat→Prop} {v:Value} {x y:PV} (h:PLe x y) (hr:PRep w Im v x):PRep w Im v y:=by
 rcases h with rfl | ⟨rfl,rfl⟩
 ·exact hr
 ·cases hr;exact PRep.slNil
theorem T7:∀ {a b:List PV},psLe a b→a.length=b.length∧∀ (i:Nat) (y:PV),b[i]? = some y→∃ x,a[i]? = some x∧PLe x y
 | [],[],_=>⟨rfl,fun i l' h=>by simp at h⟩
 | x :: a,y :: b,h=>by
  obtain ⟨h1,h2⟩:=h;obtain ⟨h3,h4⟩:=T7 h2;refine ⟨by simp [h3],fun i l' hl=>?_⟩;cases i with
  | zero=>simp at hl;subst hl;exact ⟨x,rfl,h1⟩
  | succ i=>simp at hl;simpa using h4 i l' hl
 | [],_ :: _,h=>h.elim
 | _ :: _,[],h=>h.elim
def OLe (l l':L):Prop:=l=l'∨(∃ x y,l=.p x∧l'=.p y∧PLe x y)∨∃ a b,l=.tup a∧l'=.tup b∧psLe a b
theorem OLe.rep {β:Env} {w:World} {Im:Nat→Prop} {v:Value} {l l':L} (h:OLe l l') (hr:LRep β w Im v l):LRep β w Im v l':=by
 rcases h with rfl | ⟨x,y,rfl,rfl,h⟩ | ⟨a,b,rfl,rfl,h⟩
 ·exact hr
 ·exact h.rep hr
 ·obtain ⟨vs,h1,h2,h3⟩:=hr;obtain ⟨g1,g2⟩:=T7 h;refine ⟨vs,h1,by rw [h2,g1],fun i x p hx hp=>?_⟩;obtain ⟨q,hq,hle⟩:=g2 i p hp;exact hle.rep (h3 i x q hx hq)
theorem Al.weak {X:Cx} {f:FuncId} {args:List L} {rs:Regs} {Post Post':L→Regs→Prop} (h:Al X f args rs Post) (hp:∀ l q,Post l q→∃ l',OLe l l'∧Post' l' q):Al X f args rs Post' :=
 ⟨h.1,fun β Im w vs hg hf=>(h.2 β Im w vs hg hf).mono fun _ _ ⟨v,l,rs',β',Im',he,hP,hr,hc⟩=>by
  obtain ⟨l',h1,h2⟩:=hp _ _ hP;exact ⟨v,l',rs',β',Im',he,h2,h1.rep hr,hc⟩⟩
theorem Det.weak {X:Cx} {f:FuncId} {args:List L} {rs rs':Regs} {l':L} (h:Al X f args rs fun m q=>OLe m l'∧q=rs'):Det X f args rs l' rs' :=
 h.weak fun l q ⟨h1,h2⟩=>⟨l',h1,rfl,h2⟩
theorem Jr0 {a b:List PV} (h:psLe a b):OLe (.tup a) (.tup b):=.inr (.inr ⟨_,_,rfl,rfl,h⟩)
attribute [local irreducible] Al Bi SWP
def Ee (s:List UInt8) (i:Nat):Step×Nat :=
 if (Bw (s.drop i)).2≠0 then Bw (s.drop i)
 else if i=0 then (if s.take 1=[46]∧(Ce (s.drop 1)).2≠0 then ((Ce (s.drop 1)).1,(Ce (s.drop 1)).2+1) else (Dv,0))
 else Ce (s.drop i)
def Fl (s:List UInt8):Nat→Nat→List Step→List Step×Nat
 | 0,i,p=>(p,i)
 | f+1,i,p=>if i<s.length∧p.length<20∧(Ee s i).2≠0 then Fl s f (i+(Ee s i).2) (p ++ [(Ee s i).1]) else (p,i)
def Mp (s:List UInt8):List Step×Nat:=Fl s (s.length+1) 0 []
def Je (s:List UInt8):List Step×Nat×Nat :=
 if s=[46] then ([],0,0)
 else if (Mp s).2<s.length∨(Mp s).1.length=0 then ([],(Mp s).2,1)
 else ((Mp s).1,0,0)
theorem Jf2 (s:List UInt8):(Bw s).2≤s.length:=by
 unfold Bw;split
 ·rename_i h0;have h1:1≤s.length:=by cases s <;> simp at h0 ⊢
  have hw:=P3 (s.drop 1);have hu:=(Jl8 (s.drop 1)).2.2;rw [List.length_drop] at hw hu;split
  ·simp only;omega
  ·split <;> simp only <;> omega
 ·exact Nat.zero_le _
theorem Zo (s:List UInt8):(Ce s).2≤s.length:=by
 unfold Ce;split
 ·rename_i h;obtain ⟨e,he⟩:∃ e:Nat,eI s=e:=⟨(eI s).toNat,by omega⟩
  have hl:=Jea he;split
  ·split
   ·simp only;omega
   ·exact Nat.zero_le _
  ·exact Nat.zero_le _
 ·exact Nat.zero_le _
theorem Jwf {s:List UInt8} {i:Nat} (h:i≤s.length):i+(Ee s i).2≤s.length:=by
 have h1:=Jf2 (s.drop i);have h2:=Zo (s.drop i);have h3:=Zo (s.drop 1);rw [List.length_drop] at h1 h2 h3;unfold Ee;split
 ·omega
 ·split
  ·subst i;split
   ·rename_i h0;have h1:1≤s.length:=by have:=h0.1;cases s <;> simp at this ⊢
    simp only;omega
   ·simp only;omega
  ·omega
theorem Gv {s:List UInt8} {f i:Nat} {p:List Step} (h:¬ (i<s.length∧p.length<20∧(Ee s i).2≠0)):Fl s f i p=(p,i):=by
 cases f with
 | zero=>rfl
 | succ f=>rw [Fl,if_neg h]
theorem Kn (p q:List Step):Bb (p ++ q)=Bb p ++ Bb q:=by simp [Bb]
theorem Jjx (s:List UInt8) (hs:s.length≤1000000):Det cx 70 [.p (.str s)] [] (.tup [.sl (Bb (Je s).1),.int .i64 (Je s).2.1,.int .i64 (Je s).2.2]) []:=by
 refine Det.weak ?_;by_cases hd:s=[46]
 ·subst hd;(refine bgo Tryz.func70 ?_;simp only [go_sem,simprocAttr]);exact Jr0 ⟨.nil,.refl _,.refl _,trivial⟩
 ·have hd':(s=[46])=False:=eq_false hd;(refine bgo Tryz.func70 ?_;simp only [go_sem,simprocAttr,hd']);refine Jqn (Jsz _ (i:=5) (d:=59) 46 3 (.inl de) rfl) ?_;simp only [St.nilOwn,St.nilReg,go_sem,simprocAttr,hd'];refine SWP.loop (fun x:Nat×Nat×List Step=>⟨Ba 74 [(0,.p (.str s)),(5,.own 59 0 x.2.2.length),(6,.p (.int .i64 x.1))],[(59,.row 46 3 (Bb x.2.2))]⟩) (fun x=>x.1≤s.length∧s.length+1≤x.1+x.2.1∧x.2.2.length≤20∧Fl s x.2.1 x.1 x.2.2=Mp s) (fun x=>s.length - x.1) (0,s.length+1,[]) (by rw [show Bb []=[] from rfl];exact Jqc) ⟨Nat.zero_le _,by simp,by simp,rfl⟩ ?_;rintro ⟨i,f,p⟩ ⟨h1,h2,h3,h4⟩;simp only at h1 h2 h3 h4;have hf:=Jf2 (s.drop i);have hp:=Zo (s.drop i);rw [List.length_drop] at hf hp;have wl (n:Nat) (hn:n≤3000000):IntKind.i64.wrap ((i:Int)+(n:Int))=((i+n:Nat):Int):=Aa omg omg;have bad:Fl s f i p=(p,i)→(i<s.length∨p.length=0)→Je s=([],i,1):=fun h h'=>by
   rw [h] at h4;unfold Je;rw [if_neg hd,← h4,if_pos h']
  have good:Fl s f i p=(p,i)→¬ (i<s.length∨p.length=0)→Je s=(p,0,0):=fun h h'=>by
   rw [h] at h4;unfold Je;rw [if_neg hd,← h4,if_neg h']
  have htk:(Bb p).take p.length=Bb p:=List.take_of_length_le sm;by_cases hc:¬ (i<s.length∧p.length<20)
  ·have hst:Fl s f i p=(p,i):=Gv fun h=>hc ⟨h.1,h.2.1⟩
   (refine lws ?_;simp only [go_sem,simprocAttr,Aq,htk,Nat.le_refl]);(repeat' (first | (apply iteI <;> intro h)|(refine Jqd ?_)|(exfalso;omega)))
   ·rw [bad hst omg];exact Jr0 ⟨.nil,.refl _,.refl _,trivial⟩
   ·rw [bad hst omg];exact Jr0 ⟨.nil,.refl _,.refl _,trivial⟩
   ·rw [good hst omg];exact .inl rfl
  ·have hc:=Decidable.not_not.1 hc;have hdl:(s.drop i).length≤1000000:=by rw [List.length_drop];omega
   obtain ⟨g,rfl⟩:∃ g,f=g+1:=⟨f - 1,by omega⟩
   by_cases hfi:(Bw (s.drop i)).2≠0
   ·have hn:Ee s i=Bw (s.drop i):=by unfold Ee;rw [if_pos hfi]
    have hel:Bb p ++ [(Bw (s.drop i)).1.cells]=Bb (p ++ [(Bw (s.drop i)).1]):=by rw [Kn];rfl
    rw [Fl,hn,if_pos ⟨hc.1,hc.2,hfi⟩] at h4;have hw:=wl (Bw (s.drop i)).2 omg;have hel':Bb p ++ [[.bool (Bw (s.drop i)).1.part,.str (Bw (s.drop i)).1.name,.int .i64 (Bw (s.drop i)).1.n]]=Bb (p ++ [(Bw (s.drop i)).1]):=hel;(refine lws ?_;simp only [go_sem,simprocAttr,Aq,htk,Nat.le_refl,Aq,htk,Nat.le_refl]);(repeat' (first | (apply iteI <;> intro h)|(refine Jqd ?_)|((refine Jqa (Ev (s.drop i) hdl) ?_);simp only [go_sem,simprocAttr,Aq,htk,Nat.le_refl,Aq,htk,Nat.le_refl,Step.cells,hel',hw])|(exfalso;omega)));refine ⟨by simp,by omega,by omega,(i+(Bw (s.drop i)).2,g,p ++ [(Bw (s.drop i)).1]),⟨by simp only;omega,by simp only;omega,by simp only [List.length_append,List.length_singleton];omega,h4⟩,by simp only;omega,?_⟩;simp only [List.length_append,List.length_singleton];exact Jqc
   ·have hf0:(Bw (s.drop i)).2=0:=by omega
    have w01:IntKind.i64.wrap 1=1:=by decide
    rw [Fl] at h4;by_cases hi:i=0
    ·have hi0:(i:Int)=0:=by omega
     have e0:s.drop i=s:=by rw [hi];rfl
     rw [e0] at hf0;by_cases hdot:s.take 1=[46]
     ·have hd1:(s.drop 1).length≤1000000:=by rw [List.length_drop];omega
      have hp1:=Zo (s.drop 1);have hs1:1≤s.length:=by cases s <;> simp at hdot ⊢
      rw [List.length_drop] at hp1;by_cases hpz:(Ce (s.drop 1)).2=0
      ·have hn:(Ee s i).2=0:=by unfold Ee;rw [if_neg hfi,if_pos hi,if_neg (fun h=>h.2 hpz)]
       have hst:Fl s (g+1) i p=(p,i):=Gv fun h=>h.2.2 hn
       have hel':=hi0;have hw:=hpz;(refine lws ?_;simp only [go_sem,simprocAttr,Aq,htk,Nat.le_refl,Aq,htk,Nat.le_refl,hel',Aq,htk,Nat.le_refl,hel']);(repeat' (first | (apply iteI <;> intro h)|(refine Jqd ?_)|((first | (refine Jqa (Ev s hs) ?_)|(refine Jqa (Bj s [46] hs sm) ?_)|(refine Jqa (Jr (s.drop 1) hd1) ?_));simp only [go_sem,simprocAttr,Aq,htk,Nat.le_refl,Aq,htk,Nat.le_refl,Step.cells,hw,Aq,htk,Nat.le_refl,Step.cells,hw,hf0,hdot,w01])|(exfalso;omega)));rw [bad hst omg,hi];exact Jr0 ⟨.nil,.refl _,.refl _,trivial⟩
      ·have hn:Ee s i=((Ce (s.drop 1)).1,(Ce (s.drop 1)).2+1):=by unfold Ee;rw [if_neg hfi,if_pos hi,if_pos ⟨hdot,hpz⟩]
       rw [hn,if_pos ⟨hc.1,hc.2,Nat.succ_ne_zero _⟩] at h4;have hst:IntKind.i64.wrap (((Ce (s.drop 1)).2:Int)+1)=(((Ce (s.drop 1)).2+1:Nat):Int):=wi1 omg;have hel':Bb p ++ [[.bool (Ce (s.drop 1)).1.part,.str (Ce (s.drop 1)).1.name,.int .i64 (Ce (s.drop 1)).1.n]]=Bb (p ++ [(Ce (s.drop 1)).1]):=by rw [Kn];rfl
       have hw:=hi0;(refine lws ?_;simp only [go_sem,simprocAttr,Aq,htk,Nat.le_refl,Aq,htk,Nat.le_refl,hw,Aq,htk,Nat.le_refl,hw]);(repeat' (first | (apply iteI <;> intro h)|(refine Jqd ?_)|((first | (refine Jqa (Ev s hs) ?_)|(refine Jqa (Bj s [46] hs sm) ?_)|(refine Jqa (Jr (s.drop 1) hd1) ?_));simp only [go_sem,simprocAttr,Aq,htk,Nat.le_refl,Aq,htk,Nat.le_refl,Step.cells,hel',Aq,htk,Nat.le_refl,Step.cells,hel',hf0,hdot,w01,hst])|(exfalso;omega)));refine ⟨by simp,by omega,by omega,(i+((Ce (s.drop 1)).2+1),g,p ++ [(Ce (s.drop 1)).1]),⟨by simp only;omega,by simp only;omega,by simp only [List.length_append,List.length_singleton];omega,h4⟩,by simp only;omega,?_⟩;simp only [List.length_append,List.length_singleton];rw [hi];generalize Ce (s.drop 1)=P at *
       exact Jqc
     ·have hn:(Ee s i).2=0:=by unfold Ee;rw [if_neg hfi,if_pos hi,if_neg (fun h=>hdot h.1)]
      have hst:Fl s (g+1) i p=(p,i):=Gv fun h=>h.2.2 hn
      have hel':=hi0;have hw:=hdot;(refine lws ?_;simp only [go_sem,simprocAttr,Aq,htk,Nat.le_refl,Aq,htk,Nat.le_refl,hel',Aq,htk,Nat.le_refl,hel']);(repeat' (first | (apply iteI <;> intro h)|((first | (refine Jqa (Ev s hs) ?_)|(refine Jqa (Bj s [46] hs sm) ?_));simp only [go_sem,simprocAttr,Aq,htk,Nat.le_refl,Aq,htk,Nat.le_refl,Step.cells,hw,Aq,htk,Nat.le_refl,Step.cells,hw,hf0])|(exfalso;omega)));rw [bad hst omg,hi];exact Jr0 ⟨.nil,.refl _,.refl _,trivial⟩
    ·by_cases hpz:(Ce (s.drop i)).2=0
     ·have hn:(Ee s i).2=0:=by unfold Ee;rw [if_neg hfi,if_neg hi,hpz]
      have hst:Fl s (g+1) i p=(p,i):=Gv fun h=>h.2.2 hn
      have hel':=hpz;have hw:IntKind.i64.wrap ((i:Int)+0)=(i:Int):=by rw [Int.add_zero];exact Aa omg omg
      have hdot:=hi;(refine lws ?_;simp only [go_sem,simprocAttr,Aq,htk,Nat.le_refl,Aq,htk,Nat.le_refl,Aq,htk,Nat.le_refl]);(repeat' (first | (apply iteI <;> intro h)|(refine Jqd ?_)|((first | (refine Jqa (Ev (s.drop i) hdl) ?_)|(refine Jqa (Jr (s.drop i) hdl) ?_));simp only [go_sem,simprocAttr,Aq,htk,Nat.le_refl,Aq,htk,Nat.le_refl,Step.cells,hel',hw,Aq,htk,Nat.le_refl,Step.cells,hel',hw,hf0])|(exfalso;omega)));rw [bad hst omg];exact Jr0 ⟨.nil,.refl _,.refl _,trivial⟩
     ·have hn:Ee s i=Ce (s.drop i):=by unfold Ee;rw [if_neg hfi,if_neg hi]
      have hel':Bb p ++ [[.bool (Ce (s.drop i)).1.part,.str (Ce (s.drop i)).1.name,.int .i64 (Ce (s.drop i)).1.n]]=Bb (p ++ [(Ce (s.drop i)).1]):=by rw [Kn];rfl
      rw [hn,if_pos ⟨hc.1,hc.2,hpz⟩] at h4;have hw:IntKind.i64.wrap ((i:Int)+0)=(i:Int):=by rw [Int.add_zero];exact Aa omg omg
      have hdot:=hi;have hst:=wl (Ce (s.drop i)).2 omg;have w01:IntKind.i64.wrap (((Ce (s.drop i)).2:Int)+0)=((Ce (s.drop i)).2:Int):=by rw [Int.add_zero];exact Aa omg omg
      (refine lws ?_;simp only [go_sem,simprocAttr,Aq,htk,Nat.le_refl,Aq,htk,Nat.le_refl,Aq,htk,Nat.le_refl]);(repeat' (first | (apply iteI <;> intro h)|(refine Jqd ?_)|((first | (refine Jqa (Ev (s.drop i) hdl) ?_)|(refine Jqa (Jr (s.drop i) hdl) ?_));simp only [go_sem,simprocAttr,Aq,htk,Nat.le_refl,Aq,htk,Nat.le_refl,Step.cells,hel',hw,Aq,htk,Nat.le_refl,Step.cells,hel',hw,hf0,w01,hst])|(exfalso;omega)));refine ⟨by simp,by omega,by omega,(i+((Ce (s.drop i)).2),g,p ++ [(Ce (s.drop i)).1]),⟨by simp only;omega,by simp only;omega,by simp only [List.length_append,List.length_singleton];omega,h4⟩,by simp only;omega,?_⟩;simp only [List.length_append,List.length_singleton];exact Jqc
theorem B9 (s:List UInt8) (hs:s.length≤1000000000):Det cx 44 [.ptr 1000 0 0,.p (.str s)] [(1000,.var 79 [.p .nptr,.p .snil])] (.tup [.int .i64 s.length,.nifc]) [(900,.row 5 1 (bstr s)),(1000,.var 79 [.ptr 1000 0 0,.own 900 0 s.length])]:=by
 (refine bgoR false [(14,900)] Tryz.func44 ?_;simp only [go_sem,simprocAttr]);(repeat' (first | ((refine Jqa (Cm) ?_);simp only [go_sem,simprocAttr]) | fail));exact ⟨X6 s,by omega,by omega,rfl⟩
def Bv (x:Step):List UInt8:=if x.part=true then 91 :: (Lib.itoa x.n ++ [93]) else if isWd x.name then 46 :: x.name else 46 :: refQ x.name
def Br (p:List Step):List UInt8:=p.flatMap Bv
def Hy (p:List Step):List UInt8:=match p with
 | []=>[46]
 | x :: _=>if x.part=true then 46 :: Br p else Br p
theorem Kx (x:Step):1≤(Bv x).length:=by
 unfold Bv;split
 ·simp
 ·split <;> simp
theorem Jd4 (s:List UInt8):(refQ s).length≤6 * s.length+2:=by
 have:=Jlg s;unfold refQ;simp;omega
theorem Jc8 {n:Int} (h0:0≤n) (h1:n≤1000000):(Lib.itoa n).length≤21:=Lib.itoa_length_le n omg omg
theorem X4 {x:Step} (h:Bc x) (hn:x.name.length≤1000):(Bv x).length≤7000:=by
 have h1:=Jd4 x.name;unfold Bc at h;unfold Bv;split
 ·rename_i hp;rw [if_pos hp] at h;have:=Jc8 h.2.1 h.2.2;simp;omega
 ·split <;> simp <;> omega
theorem Rd {p:List Step} (h:∀ x∈p,Bc x) (hn:∀ x∈p,x.name.length≤1000):(Br p).length≤7000 * p.length:=by
 induction p with
 | nil=>simp [Br]
 | cons x p ih =>
  have h1:=ih (fun y hy=>h y (List.mem_cons_of_mem _ hy)) (fun y hy=>hn y (List.mem_cons_of_mem _ hy));have h2:=X4 (h x List.mem_cons_self) (hn x List.mem_cons_self);unfold Br at *
  rw [List.flatMap_cons,List.length_append,List.length_cons];omega
theorem Uf (p q:List Step):Br (p ++ q)=Br p ++ Br q:=by simp [Br]
theorem Jeq (x:Step):Br [x]=Bv x:=by simp [Br]
def tlSt (p:List Step) (i:Nat):List UInt8→St
 | []=>⟨Ba 36 [(0,.p (.sl (Bb p))),(3,.ptr 3 0 0),(6,.p (.sl (Bb p))),(7,.p (.int .i64 p.length)),(8,.p (.int .i64 i))],[(3,.var 79 [.p .nptr,.p .snil])]⟩
 | c :: t=>⟨Ba 36 [(0,.p (.sl (Bb p))),(3,.ptr 3 0 0),(6,.p (.sl (Bb p))),(7,.p (.int .i64 p.length)),(8,.p (.int .i64 i))],[(25,.row 5 1 (bstr (c :: t))),(3,.var 79 [.ptr 3 0 0,.own 25 0 (c :: t).length])]⟩
theorem Fh {p:List Step} {i:Nat} {out:List UInt8} (h:out≠[]):tlSt p i out=⟨Ba 36 [(0,.p (.sl (Bb p))),(3,.ptr 3 0 0),(6,.p (.sl (Bb p))),(7,.p (.int .i64 p.length)),(8,.p (.int .i64 i))],[(25,.row 5 1 (bstr out)),(3,.var 79 [.ptr 3 0 0,.own 25 0 out.length])]⟩:=by
 cases out with
 | nil=>exact absurd rfl h
 | cons c t=>rfl
theorem Kb {p:List Step} {i:Nat}:tlSt p i []=⟨Ba 36 [(0,.p (.sl (Bb p))),(3,.ptr 3 0 0),(6,.p (.sl (Bb p))),(7,.p (.int .i64 p.length)),(8,.p (.int .i64 i))],[(3,.var 79 [.p .nptr,.p .snil])]⟩:=rfl
theorem N4 (p:List Step) (hp:p.length≤100) (hok:∀ x∈p,Bc x) (hn:∀ x∈p,x.name.length≤1000):Det cx 42 [.p (.sl (Bb p))] [] (.p (.str (Br p))) []:=by
 (refine bgo Tryz.func42 ?_;simp only [go_sem,simprocAttr,Aq]);refine SWP.loop (fun i:Nat=>tlSt p i (Br (p.take i))) (fun i=>i≤p.length) (fun i=>p.length - i) 0 (by show St.Le _ (tlSt p 0 []);rw [Kb];exact Jqc) (Nat.zero_le _) ?_;rintro i hi;have hT:=Rd (p:=p.take i) (fun x hx=>hok x (List.mem_of_mem_take hx)) (fun x hx=>hn x (List.mem_of_mem_take hx));rw [List.length_take] at hT;by_cases hlt:¬ i<p.length
 ·have hc:((i:Int)<(p.length:Int))=False:=eq_false omg;have htl:p.take i=p:=List.take_of_length_le omg;rw [htl] at hT ⊢;by_cases hne:Br p=[]
  ·rw [hne,Kb];(refine lws ?_;simp only [go_sem,simprocAttr,hc]);(repeat' (first | ((refine Jqa (Fa) ?_);simp only [go_sem,simprocAttr]) | fail))
  ·have hl0:(Br p).length≠0:=fun h=>hne (List.eq_nil_of_length_eq_zero h)
   rw [Fh hne];(refine lws ?_;simp only [go_sem,simprocAttr,hc]);(repeat' (first | ((refine Jqa (Eo (Br p) _ rfl omg hl0) ?_);simp only [go_sem,simprocAttr]) | fail))
 ·have hlt:=Decidable.not_not.1 hlt;obtain ⟨x,hx⟩:∃ x,p[i]? = some x:=⟨_,List.getElem?_eq_getElem hlt⟩
  have hg:=Dk hx;have hm':=List.mem_of_getElem? hx;have hc:((i:Int)<(p.length:Int))=True:=eq_true omg;have hox:=hok x hm';have hnx:=hn x hm';have hS:=X4 hox hnx;have hS1:=Kx x;have hnext:Br (p.take (i+1))=Br (p.take i) ++ Bv x:=by rw [List.take_add_one,hx,Option.toList_some,Uf,Jeq]
  have hnn:Br (p.take (i+1))≠[]:=fun h=>by rw [hnext] at h;rw [(List.append_eq_nil_iff.1 h).2] at hS1;simp at hS1
  have hrow:bstr (Br (p.take (i+1)))=bstr (Br (p.take i)) ++ bstr (Bv x):=by rw [hnext,Gz]
  have hlen:(Br (p.take (i+1))).length=(Br (p.take i)).length+(Bv x).length:=by rw [hnext,List.length_append]
  have hw:=wi1 (i:=i) omg;cases hpt:x.part
  ·unfold Bc at hox;rw [if_neg (by simp [hpt])] at hox;by_cases hwd:isWd x.name
   ·have hst:Bv x=46 :: x.name:=by unfold Bv;rw [if_neg (by simp [hpt]),if_pos hwd]
    have hdw:decide (isWd x.name)=true:=decide_eq_true hwd;by_cases hne:Br (p.take i)=[]
    ·rw [hne,Kb];rw [hne,show bstr []=[] from rfl,List.nil_append] at hrow;rw [hne,List.length_nil,Nat.zero_add] at hlen;(refine lws ?_;simp only [go_sem,simprocAttr,hc,hg,hpt]);(repeat' (first | (refine Jqd ?_)|((first | (refine Jqa (Er x.name omg) ?_)|(refine Jqa (B9 (46 :: x.name) (by rw [← hst];omega)) ?_));simp only [go_sem,simprocAttr,hw,hdw]) | fail));refine ⟨i+1,by omega,by omega,?_⟩;rw [Fh hnn,hrow,hlen,hst];refine St.Le.trans (B1 [(33,25)] _ sm) ?_;simp only [go_sem,simprocAttr];exact Jqc
    ·rw [Fh hne];(refine lws ?_;simp only [go_sem,simprocAttr,hc,hg,hpt]);(repeat' (first | (refine Jqd ?_)|((first | (refine Jqa (Er x.name omg) ?_)|(refine Jqa (Bx (46 :: x.name) _ _ (Di _) omg (by rw [← hst];omega)) ?_));simp only [go_sem,simprocAttr,hw,hdw]) | fail));refine ⟨i+1,by omega,by omega,?_⟩;rw [Fh hnn,hrow,hlen,hst];exact Jqc
   ·have hst:Bv x=46 :: refQ x.name:=by unfold Bv;rw [if_neg (by simp [hpt]),if_neg hwd]
    have hdw:decide (isWd x.name)=false:=decide_eq_false hwd;have hQ:=Jd4 x.name;by_cases hne:Br (p.take i)=[]
    ·rw [hne,Kb];rw [hne,show bstr []=[] from rfl,List.nil_append] at hrow;rw [hne,List.length_nil,Nat.zero_add] at hlen;(refine lws ?_;simp only [go_sem,simprocAttr,hc,hg,hpt]);(repeat' (first | (refine Jqd ?_)|((first | (refine Jqa (Er x.name omg) ?_)|(refine Jqa (Kt x.name omg hox.2) ?_)|(refine Jqa (B9 (46 :: refQ x.name) (by rw [← hst];omega)) ?_));simp only [go_sem,simprocAttr,hw,hdw]) | fail));refine ⟨i+1,by omega,by omega,?_⟩;rw [Fh hnn,hrow,hlen,hst];refine St.Le.trans (B1 [(16,25)] _ sm) ?_;simp only [go_sem,simprocAttr];exact Jqc
    ·rw [Fh hne];(refine lws ?_;simp only [go_sem,simprocAttr,hc,hg,hpt]);(repeat' (first | (refine Jqd ?_)|((first | (refine Jqa (Er x.name omg) ?_)|(refine Jqa (Kt x.name omg hox.2) ?_)|(refine Jqa (Bx (46 :: refQ x.name) _ _ (Di _) omg (by rw [← hst];omega)) ?_));simp only [go_sem,simprocAttr,hw,hdw]) | fail));refine ⟨i+1,by omega,by omega,?_⟩;rw [Fh hnn,hrow,hlen,hst];exact Jqc
  ·have hst:Bv x=91 :: (Lib.itoa x.n ++ [93]):=by unfold Bv;rw [if_pos hpt]
   have hb:0≤x.n∧x.n≤1000000:=by unfold Bc at hox;rw [if_pos hpt] at hox;exact hox.2
   have hdw:=Jc8 hb.1 hb.2;by_cases hne:Br (p.take i)=[]
   ·rw [hne,Kb];rw [hne,show bstr []=[] from rfl,List.nil_append] at hrow;rw [hne,List.length_nil,Nat.zero_add] at hlen;(refine lws ?_;simp only [go_sem,simprocAttr,hc,hg,hpt]);(repeat' (first | (refine Jqd ?_)|((first | (refine Jqa (N0 x.n omg omg) ?_)|(refine Jqa (B9 (91 :: (Lib.itoa x.n ++ [93])) (by rw [← hst];omega)) ?_));simp only [go_sem,simprocAttr,hw]) | fail));refine ⟨i+1,by omega,by omega,?_⟩;rw [Fh hnn,hrow,hlen,hst];exact Jqc
   ·rw [Fh hne];(refine lws ?_;simp only [go_sem,simprocAttr,hc,hg,hpt]);(repeat' (first | (refine Jqd ?_)|((first | (refine Jqa (N0 x.n omg omg) ?_)|(refine Jqa (Bx (91 :: (Lib.itoa x.n ++ [93])) _ _ (Di _) omg (by rw [← hst];omega)) ?_));simp only [go_sem,simprocAttr,hw]) | fail));refine ⟨i+1,by omega,by omega,?_⟩;rw [Fh hnn,hrow,hlen,hst];exact Jqc
theorem Ui (p:List Step) (hp:p.length≤100) (hok:∀ x∈p,Bc x) (hn:∀ x∈p,x.name.length≤1000):Det cx 29 [.p (.sl (Bb p))] [] (.p (.str (Hy p))) []:=by
 have hT:=Rd hok hn;cases p with
 | nil =>
  (refine bgo Tryz.func29 ?_;simp only [go_sem,simprocAttr]);(repeat' (first | (apply iteI <;> intro h)|(refine J9g ?_;intro b hb)|(refine Jqd ?_)|((refine Jqa (N4 [] hp hok hn) ?_);simp only [go_sem,simprocAttr]) | fail))
  ·rfl
  ·exact absurd rfl (by assumption)
 | cons x p =>
  have hg:(Bb (x :: p))[0]? = some [.bool x.part,.str x.name,.int .i64 x.n]:=rfl;rw [List.length_cons] at hT;unfold Hy;cases hpt:x.part
  ·(refine bgo Tryz.func29 ?_;simp only [go_sem,simprocAttr,Aq,hg,hpt]);(repeat' (first | (apply iteI <;> intro h)|(refine Jqd ?_)|((refine Jqa (N4 (x :: p) hp hok hn) ?_);simp only [go_sem,simprocAttr])|(exfalso;omega)))
  ·(refine bgo Tryz.func29 ?_;simp only [go_sem,simprocAttr,Aq,hg,hpt]);(repeat' (first | (apply iteI <;> intro h)|((refine Jqa (N4 (x :: p) hp hok hn) ?_);simp only [go_sem,simprocAttr])|(exfalso;omega)));rw [List.length_cons] at hp;omega
def textR (p:List Step):List UInt8:=match p with
 | []=>[]
 | x :: _=>if x.part=true then 46 :: Br p else Br p
def isDg (c:Nat):Prop:=48≤c∧c≤57
instance (c:Nat):Decidable (isDg c):=inferInstanceAs (Decidable (_∧_))
def dgR:Nat→List UInt8→List UInt8
 | k+1,c :: r=>if isDg c.toNat then c :: dgR k r else []
 | _,_=>[]
def valD (l:List UInt8):Nat:=l.foldl (fun a c=>a * 10+(c.toNat - 48)) 0
def p10:Nat→Nat
 | 0=>1
 | k+1=>10 * p10 k
theorem J8w:∀ k,k<8→p10 k≤10000000:=by decide
theorem Zl (l:List UInt8) (c:UInt8):valD (l ++ [c])=valD l * 10+(c.toNat - 48):=by simp [valD]
theorem J6m:∀ (n:Nat) (l:List UInt8),l.length=n→(∀ c∈l,isDg c.toNat)→valD l<p10 n
 | 0,l,h,_=>by rw [List.eq_nil_of_length_eq_zero h];decide
 | n+1,l,h,hd=>by
  have hne:l≠[]:=fun e=>by subst e;simp at h
  rw [← List.dropLast_concat_getLast hne,Zl];have h1:=J6m n l.dropLast (by rw [List.length_dropLast];omega) (fun c hc=>hd c (List.dropLast_subset _ hc));have h2:=hd _ (List.getLast_mem hne);unfold isDg at h2;rw [p10];omega
theorem Jc6:∀ (k:Nat) (l:List UInt8),∀ c∈dgR k l,isDg c.toNat
 | 0,l=>by simp [dgR]
 | k+1,[]=>by simp [dgR]
 | k+1,c :: r=>by
  intro d hd;rw [dgR] at hd;split at hd
  ·rcases List.mem_cons.1 hd with rfl | hd
   ·assumption
   ·exact Jc6 k r d hd
  ·cases hd
theorem Jd2:∀ (k:Nat) (l:List UInt8),(dgR k l).length≤k∧(dgR k l).length≤l.length
 | 0,l=>by simp [dgR]
 | k+1,[]=>by simp [dgR]
 | k+1,c :: r=>by
  rw [dgR];split
  ·have:=Jd2 k r;simp;omega
  ·simp
theorem Jdy:∀ (k:Nat) (l:List UInt8),dgR k l=l.take (dgR k l).length
 | 0,l=>by simp [dgR]
 | k+1,[]=>by simp [dgR]
 | k+1,c :: r=>by
  rw [dgR];split
  ·rw [List.length_cons,List.take_succ_cons,← Jdy k r]
  ·simp
def figS (s:List UInt8) (i:Nat):Int×Nat :=
 if (dgR 7 (s.drop i)).length=0∨(at_ s i=48∧1<(dgR 7 (s.drop i)).length)∨1000000<valD (dgR 7 (s.drop i)) then (-1,i)
 else (valD (dgR 7 (s.drop i)),i+(dgR 7 (s.drop i)).length)
theorem J8y {s:List UInt8} {i k:Nat} (hi:i<s.length) (hd:isDg (at_ s i)) (hk:0<k):dgR k (s.drop i)=s[i] :: dgR (k - 1) (s.drop (i+1)):=by
 rw [List.drop_eq_getElem_cons hi];obtain ⟨j,rfl⟩:∃ j,k=j+1:=⟨k - 1,by omega⟩
 rw [dgR,if_pos (by rw [Jvg (List.getElem?_eq_getElem hi)] at hd;exact hd)];rfl
theorem J9t {s:List UInt8} {i k:Nat} (h:¬ (i<s.length∧isDg (at_ s i)∧0<k)):dgR k (s.drop i)=[]:=by
 by_cases hi:i<s.length
 ·rw [List.drop_eq_getElem_cons hi];cases k with
  | zero=>rfl
  | succ j=>rw [dgR,if_neg (fun hd=>h ⟨hi,by rw [Jvg (List.getElem?_eq_getElem hi)];exact hd,by omega⟩)]
 ·rw [List.drop_eq_nil_of_le omg];cases k <;> rfl
theorem J0t (s:List UInt8) (i:Nat) (hs:s.length≤1000000) (hi:i≤s.length):Det cx 79 [.p (.str s),.p (.int .i64 i)] [] (.tup [.int .i64 (figS s i).1,.int .i64 (figS s i).2]) []:=by
 (refine bgo Tryz.func79 ?_;simp only [go_sem,simprocAttr]);refine SWP.loop (fun x:Nat×List UInt8=>⟨Ba 63 [(0,.p (.str s)),(1,.p (.int .i64 (i+x.1:Nat))),(6,.p (.int .i64 (valD x.2))),(7,.p (.int .i64 i))],[]⟩) (fun x=>x.1≤7∧i+x.1≤s.length∧x.2.length=x.1∧(∀ c∈x.2,isDg c.toNat)∧x.2 ++ dgR (7 - x.1) (s.drop (i+x.1))=dgR 7 (s.drop i)) (fun x=>7 - x.1) (0,[]) (by rw [show valD []=0 from rfl];exact Jqc) ⟨by simp,by simp only;omega,rfl,by simp,by simp⟩ ?_;rintro ⟨k,l⟩ ⟨h1,h2,h3,h4,h5⟩;simp only at h1 h2 h3 h4 h5;have hv:=J6m k l h3 h4;have hp:=J8w k omg;have hw:IntKind.i64.wrap (((i+k:Nat):Int) - (i:Int))=(k:Int):=by rw [Aa omg omg];omega
 have hstop:¬ (i+k<s.length∧isDg (at_ s (i+k))∧0<7 - k)→dgR 7 (s.drop i)=l:=fun h=>by
  rw [J9t h,List.append_nil] at h5;exact h5.symm
 (refine lws ?_;simp only [go_sem,simprocAttr,hw,wi1 (i:=i) omg]);(repeat' (first | (apply iteI <;> intro h)|(refine Jqd ?_)|(exfalso;omega)))
 all_goals first
  | (exfalso;omega)
  | (
   have e:=hstop (by unfold isDg;omega);unfold figS;rw [e,if_pos omg];exact ⟨rfl,rfl⟩)
  | (
   have e:=hstop (by unfold isDg;omega);unfold figS;rw [e,if_neg omg,h3];exact ⟨rfl,rfl⟩)
  | skip
 have hlt:i+k<s.length:=by omega
 have hd:isDg (at_ s (i+k)):=by unfold isDg;omega
 have hat:at_ s (i+k)=(s[i+k]).toNat:=Jvg (List.getElem?_eq_getElem hlt);rw [J8y hlt hd omg] at h5;have hp1:=J8w (k+1) omg;rw [p10] at hp1;have hv1:IntKind.i64.wrap (IntKind.i64.wrap ((valD l:Int) * 10)+IntKind.i64.wrap (IntKind.u8.wrap ((at_ s (i+k):Int) - 48)))=((valD (l ++ [s[i+k]]):Nat):Int):=by
  rw [Zl,← hat];unfold isDg at hd;simp (disch:=omega) only [Aa,Ab];omega
 rw [hv1];refine ⟨(k+1,l ++ [s[i+k]]),⟨by simp only;omega,by simp only;omega,by simp only [List.length_append,List.length_singleton];omega,?_,?_⟩,by simp only;omega,?_⟩
 ·intro c hc;rcases List.mem_append.1 hc with hc | hc
  ·exact h4 c hc
  ·rw [List.mem_singleton] at hc;subst hc;rw [← hat];exact hd
 ·simp only;rw [← h5,List.append_assoc,List.singleton_append];rfl
 ·exact Jqc
end Go.LX
