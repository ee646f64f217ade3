/- Package quote: Quote. -/
import Derived.Test.YtpdaccjebbbbaaaDoorLxN
import Derived.Test.YtpdaccjebbbbaaaDoorLxJ
import Derived.Lib.ItoaLen
import Derived.Lib.AtoiTie
import Derived.Test.YtpdaccjebbbbaaaDoorLxI
import Derived.Test.YtpdaccjebbbbaaaDoorLxK
import Derived.Test.YtpdaccjebbbbaaaDoorLxL
import Derived.Lib.Overlaps
import Derived.Test.YtpdaccjebbbbaaaDoorLxM
set_option linter.unusedSimpArgs false
set_option linter.unusedVariables false
set_option linter.unusedSectionVars false
set_option linter.unnecessarySimpa false
set_option maxRecDepth 100000
set_option maxHeartbeats 2000000
namespace Go.LX
open Go Go.RowKit Go.Proofs
attribute [local irreducible] Al SWP Bi
theorem Jdx (a b:List UInt8):wrs (a ++ b)=wrs a ++ wrs b:=by simp [wrs]
def qr (r:Int):List UInt8:=match letR r with
 | some c=>[92,UInt8.ofNat c]
 | none=>if r<32 then [92,117,48,48] ++ (hex3 (r.toNat+256)).drop 1 else utf r
theorem Joz {c:Nat} (h:128≤c):wr c=[UInt8.ofNat c]:=by
 unfold wr;rw [if_neg omg,if_neg omg,if_neg omg,if_neg omg,if_neg omg,if_neg omg,if_neg omg,if_neg omg]
theorem wr_low {c:Nat} (h:c<128):wr c=qr c:=by
 have key:∀ m:Fin 128,wr m.val=qr m.val:=by decide
 exact key ⟨c,h⟩
theorem Ze:∀ l:List UInt8,(∀ c∈l,128≤c.toNat)→wrs l=l
 | [],_=>rfl
 | c :: l,h=>by
  show wr c.toNat ++ wrs l=c :: l;rw [Joz (h c List.mem_cons_self),Ze l fun d hd=>h d (List.mem_cons_of_mem _ hd)];simp
theorem Jfh {r:Int} (h:93≤r):letR r=none:=by
 unfold letR;rw [if_neg omg,if_neg omg,if_neg omg,if_neg omg,if_neg omg,if_neg omg,if_neg omg]
theorem Yx {s:List UInt8} {i:Nat} (h:rlen s i≠0) (hi:i<s.length):wrs ((s.drop i).take (rlen s i))=qr (code s i):=by
 by_cases h1:at_ s i<128
 ·rw [Q4.2 h1,(Gq h).2 h1,← wr_low h1];rw [List.drop_eq_getElem_cons hi,List.take_succ_cons,List.take_zero];show wr s[i].toNat ++ []=wr (at_ s i);rw [List.append_nil,Ql hi]
 ·have hc:128≤code s i:=by have:=(Gq h).1;omega
  have e:qr (code s i)=utf (code s i):=by
   unfold qr;rw [Jfh omg];simp only;rw [if_neg omg]
  rw [e,H5 h hi];apply Ze;intro c hm;rw [← H5 h hi] at hm;obtain ⟨x,hx,rfl⟩:=List.mem_map.1 hm;have hx2:128≤x∧x<256:=by
   revert hx;unfold utfC;rw [if_neg omg]
   repeat' split
   all_goals (simp;try omega)
  have:=B8 (c:=x) omg omg;omega
theorem K4 (es:List (List PV)) (s:List UInt8) (n:Nat) (he:es=bstr s) (hn:s.length=n) (h1:n≤1000000000) (h0:n≠0):Det cx 33 [.ptr 1000 0 0] [(500001,.row 5 1 es),(1000,.var 57 [.ptr 1000 0 0,.own 500001 0 n])] (.p (.str s)) [(1000,.var 57 [.ptr 1000 0 0,.junk])]:=by
 subst he;exact Eo s n hn h1 h0
@[simp] theorem bstr_34:bstr [34]=[[.int .u8 34]]:=rfl
theorem Jik (u:Nat):(hex3 u).length=3:=rfl
theorem Kt (s:List UInt8) (hs:s.length≤1000000) (hv:valid s=true):Det cx 43 [.p (.str s)] [] (.p (.str (refQ s))) []:=by
 (refine bgo Tryd.func43 ?_;simp only [go_sem,simprocAttr]);refine Jfl.mono fun m q hm'=>?_
 obtain ⟨rfl,es,rfl,hL⟩:=hm';simp only [go_sem,simprocAttr];(repeat' (first | ((refine Jqa (Hc 34) ?_);simp only [go_sem,simprocAttr]) | fail));refine SWP.loop (fun x:Nat×Nat=>⟨Ba 41 [(0,.p (.str s)),(3,.ptr 3 0 0),(4,.p (.mp es)),(12,.ptr 12 0 0)],[(12,.obj (.sit s x.1)),(10,.row 5 1 (bstr (34 :: wrs (s.take x.1)))),(3,.var 57 [.ptr 3 0 0,.own 10 0 (34 :: wrs (s.take x.1)).length])]⟩) (fun x=>x.1≤s.length∧s.length+1≤x.1+x.2∧vF s x.2 x.1=true) (fun x=>s.length - x.1) (0,s.length+1) Jqd ⟨by simp,by simp,hv⟩ ?_;rintro ⟨i,f⟩ ⟨h1,h2,h3⟩;simp only at h1 h2 h3;obtain ⟨g,rfl⟩:∃ g,f=g+1:=⟨f - 1,by omega⟩
 have hw:=Jlg (s.take i);have hl:(s.take i).length≤s.length:=List.length_take_le' ..
 rw [vF] at h3;by_cases hlt:¬ i<s.length
 ·have ht:s.take i=s:=List.take_of_length_le omg;rw [ht] at hw ⊢;(refine lws ?_;simp only [go_sem,simprocAttr,H6]);(repeat' (first | (apply iteI <;> intro h)|((first | (refine Jqa (Eb 34 _ _ (Di _) (by simp;omega)) ?_)|(refine Jqa (K4 _ (34 :: wrs s ++ [34]) _ (by simp [bstr]) sm (by simp;omega) sm) ?_));simp only [go_sem,simprocAttr])|(exfalso;omega)));rfl
 have hlt:=Decidable.not_not.1 hlt;rw [if_pos hlt] at h3;have hd:=F1 s i;have hrl:=M4 s i hlt;by_cases hr:rlen s i=0
 ·rw [if_pos hr] at h3;cases h3
 rw [if_neg hr] at h3 hd;have hR:=Fm hr;unfold Cy at hR;have hq:wrs (s.take (i+rlen s i))=wrs (s.take i) ++ qr (code s i):=by
  rw [List.take_add,Jdx,Yx hr hlt]
 have hw0:=wi0 (c:=code s i) omg;have hw1:IntKind.i64.wrap ((code s i:Int)+256)=((code s i+256:Nat):Int):=by rw [Aa omg omg];omega
 rcases hL (code s i) with ⟨hlr,hmf⟩ | ⟨j,c,hlr,hc,hmf⟩
 ·(refine lws ?_;simp only [go_sem,simprocAttr,H6,hd,hmf]);(repeat' (first | (apply iteI <;> intro h)|((first | (refine Jqa (Bx _ _ _ (by simp [bstr]) (by simp;omega) (by simp [hex3])) ?_)|(refine Jqa (Ph (code s i+256) omg omg) ?_)|(refine Jqa (Ed _ _ _ (Di _) (by simp;omega) omg omg) ?_));simp only [go_sem,simprocAttr,hw0,hw1,Jik])|(exfalso;omega)))
  ·have hqr:qr (code s i)=[92,117,48,48] ++ (hex3 (code s i+256)).drop 1:=by
    unfold qr;rw [hlr];simp only;rw [if_pos omg];rfl
   have hrow:bstr (34 :: wrs (s.take (i+rlen s i)))=bstr (34 :: wrs (s.take i)) ++ bstr [92,117,48,48] ++ bstr ((hex3 (code s i+256)).drop 1):=by
    rw [hq,hqr,← List.cons_append,Gz,Gz,List.append_assoc]
   have hlen:(wrs (s.take (i+rlen s i))).length+1=(wrs (s.take i)).length+1+4+((hex3 (code s i+256)).drop 1).length:=by rw [hq,hqr];simp [hex3]
   refine ⟨(i+rlen s i,g),⟨by simp only;omega,by simp only;omega,h3⟩,by simp only;omega,?_⟩;simp only [List.length_cons];rw [hrow,hlen];exact Jqd
  ·have hqr:qr (code s i)=utf (code s i):=by
    unfold qr;rw [hlr];simp only;rw [if_neg omg]
   have hrow:bstr (34 :: wrs (s.take (i+rlen s i)))=bstr (34 :: wrs (s.take i)) ++ bstr (utf (code s i)):=by
    rw [hq,hqr,← List.cons_append,Gz]
   have hlen:(wrs (s.take (i+rlen s i))).length+1=(wrs (s.take i)).length+1+(utf (code s i)).length:=by rw [hq,hqr];simp;omega
   refine ⟨(i+rlen s i,g),⟨by simp only;omega,by simp only;omega,h3⟩,by simp only;omega,?_⟩;simp only [List.length_cons];rw [hrow,hlen];exact Jqd
 ·(refine lws ?_;simp only [go_sem,simprocAttr,H6,hd,hmf,hd,hmf]);(repeat' (first | (apply iteI <;> intro h)|((refine Jqa (Eb _ _ _ (by simp [bstr]) (by simp;omega)) ?_);simp only [go_sem,simprocAttr])|(exfalso;omega)));have hqr:qr (code s i)=[92,UInt8.ofNat c]:=by
   unfold qr;rw [hlr]
  have hrow:bstr (34 :: wrs (s.take (i+rlen s i)))=bstr (34 :: wrs (s.take i)) ++ [[.int .u8 92]] ++ [[.int .u8 c]]:=by
   rw [hq,hqr,← List.cons_append,Gz,List.append_assoc];simp [bstr];omega
  have hlen:(wrs (s.take (i+rlen s i))).length+1=(wrs (s.take i)).length+1+1+1:=by rw [hq,hqr];simp
  refine ⟨(i+rlen s i,g),⟨by simp only;omega,by simp only;omega,h3⟩,by simp only;omega,?_⟩;simp only [List.length_cons];rw [hrow,hlen];exact Jqd
def utfs (rs:List Int):List UInt8:=rs.flatMap utf
def wq (rs:List Int):List UInt8:=rs.flatMap qr
def AllR (rs:List Int):Prop:=∀ r∈rs,Cy r
theorem Ki (r:Int) (rs:List Int):utfs (r :: rs)=utf r ++ utfs rs:=rfl
theorem U4 (r:Int) (rs:List Int):wq (r :: rs)=qr r ++ wq rs:=rfl
theorem AllR.app {a b:List Int} (h1:AllR a) (h2:AllR b):AllR (a ++ b):=fun r h=>(List.mem_append.1 h).elim (h1 r) (h2 r)
theorem AllR.tail {r:Int} {rs:List Int} (h:AllR (r :: rs)):AllR rs:=fun x hx=>h x (List.mem_cons_of_mem _ hx)
theorem AllR.head {r:Int} {rs:List Int} (h:AllR (r :: rs)):Cy r:=h r List.mem_cons_self
theorem O2:∀ (rs:List Int) (s:List UInt8) (f i:Nat),AllR rs→s.drop i=utfs rs→vF s f i=true
 | _,_,0,_,_,_=>rfl
 | [],s,f+1,i,_,h=>by
  have hl:=congrArg List.length h;simp [utfs] at hl;rw [vF,if_neg omg]
 | r :: rs,s,f+1,i,ha,h=>by
  rw [Ki] at h;obtain ⟨h1,_⟩:=Rp ha.head (utfs rs);rw [← h,Ny,Nat.add_zero] at h1;have hp:=I4 r;have hd:s.drop (i+rlen s i)=utfs rs:=by
   rw [← List.drop_drop,h,h1,List.drop_left]
  rw [vF];split
  ·rw [if_neg omg];exact O2 rs s f _ ha.tail hd
  ·rfl
theorem Pi:∀ (f:Nat) (s:List UInt8) (i:Nat),s.length<i+f→vF s f i=true→∃ rs,AllR rs∧s.drop i=utfs rs
 | 0,s,i,hf,_=>⟨[],by simp [AllR],List.drop_eq_nil_of_le omg⟩
 | f+1,s,i,hf,h=>by
  rw [vF] at h;split at h
  ·rename_i hlt;split at h
   ·cases h
   ·rename_i hr;obtain ⟨rs,ha,hd⟩:=Pi f s _ omg h;refine ⟨(code s i:Int) :: rs,?_,?_⟩
    ·intro r hm;rcases List.mem_cons.1 hm with rfl | hm
     ·exact Fm hr
     ·exact ha r hm
    ·rw [Ki,H5 hr hlt,← hd,← List.drop_drop,List.take_append_drop]
  ·exact ⟨[],by simp [AllR],List.drop_eq_nil_of_le omg⟩
theorem Jb {s:List UInt8}:valid s=true ↔ ∃ rs,AllR rs∧s=utfs rs :=
 ⟨fun h=>by
  obtain ⟨rs,ha,hd⟩:=Pi (s.length+1) s 0 omg h;exact ⟨rs,ha,hd⟩,fun ⟨rs,ha,e⟩=>O2 rs s _ 0 ha (by rw [List.drop_zero];exact e)⟩
theorem Jn1 {r:Int} (h:Cy r):wrs (utf r)=qr r:=by
 obtain ⟨h1,h2⟩:=Rp h [];rw [List.append_nil] at h1 h2;have hp:=I4 r;have:=Yx (s:=utf r) (i:=0) omg omg;rw [h1,List.drop_zero,List.take_length,h2] at this;exact this
theorem Ru:∀ rs:List Int,AllR rs→wrs (utfs rs)=wq rs
 | [],_=>rfl
 | r :: rs,h=>by rw [Ki,U4,Jdx,Jn1 h.head,Ru rs h.tail]
theorem qr_pos (r:Int):1≤(qr r).length:=by
 have:=I4 r;unfold qr;split
 ·simp
 ·split
  ·simp
  ·exact this
theorem Tu (r:Int):(letR r=none∧r≠34∧r≠92)∨∃ c,letR r=some c∧Hr c=some r.toNat∧0≤r∧c<256:=by
 unfold letR;by_cases c1:r=34
 ·subst c1;exact .inr ⟨34,rfl,rfl,by decide,by decide⟩
 by_cases c2:r=92
 ·subst c2;exact .inr ⟨92,rfl,rfl,by decide,by decide⟩
 by_cases c3:r=8
 ·subst c3;exact .inr ⟨98,rfl,rfl,by decide,by decide⟩
 by_cases c4:r=12
 ·subst c4;exact .inr ⟨102,rfl,rfl,by decide,by decide⟩
 by_cases c5:r=10
 ·subst c5;exact .inr ⟨110,rfl,rfl,by decide,by decide⟩
 by_cases c6:r=13
 ·subst c6;exact .inr ⟨114,rfl,rfl,by decide,by decide⟩
 by_cases c7:r=9
 ·subst c7;exact .inr ⟨116,rfl,rfl,by decide,by decide⟩
 refine .inl ⟨by simp [*],c1,c2⟩
theorem Jna (s:List UInt8) (i:Nat):tk (s.drop i) 0=tk s i:=by
 unfold tk;simp only [Ko,Ny,Nat.add_zero,List.drop_zero]
theorem Jmx {a b c d:UInt8} (t:List UInt8):u4 (92 :: 117 :: a :: b :: c :: d :: t)=(match hexN [a,b,c,d] 0 with | some n=>(n:Int) | none=>-1):=by
 unfold u4;rw [if_pos ⟨by simp,rfl,rfl⟩];rfl
theorem Jig {c r:Nat} {t:List UInt8} (h:Hr c=some r) (hc:c<256):escR (92 :: UInt8.ofNat c :: t)=((r:Int),2):=by
 unfold escR;rw [if_neg sm];have e:at_ (92 :: UInt8.ofNat c :: t) 1=c:=by
  show (UInt8.ofNat c).toNat=c;simp;omega
 rw [e,h]
theorem Jh5 {s:List UInt8} (h2:2≤s.length) (h1:Hr (at_ s 1)=none) (h:(0≤u4 s∧u4 s<55296)∨57344≤u4 s):escR s=(u4 s,6):=by
 unfold escR;rw [if_neg omg,h1];simp only;rw [if_neg omg,if_pos omg]
theorem tk_qr {r:Int} (h:Cy r) (t:List UInt8):tk (qr r ++ t) 0=(utf r,(qr r).length)∧at_ (qr r ++ t) 0≠34∧32≤at_ (qr r ++ t) 0:=by
 have h':=h;unfold Cy at h';rcases Tu r with ⟨hl,n1,n2⟩ | ⟨c,hl,hs,h0,hc⟩
 ·by_cases h32:r<32
  ·have e:qr r=[92,117,48,48] ++ (hex3 (r.toNat+256)).drop 1:=by unfold qr;rw [hl];simp only;rw [if_pos h32]
   obtain ⟨n,rfl⟩:=Int.eq_ofNat_of_zero_le (show 0≤r by omega);have hn:n<32:=by omega
   have key:∀ m:Fin 32,hexN ([48,48] ++ (hex3 (m.val+256)).drop 1) 0=some m.val:=by decide
   have k:=key ⟨n,hn⟩;rw [show ((n:Int)).toNat=n from rfl] at e;have eu:u4 (qr n ++ t)=n:=by
    rw [e];show u4 (92 :: 117 :: 48 :: 48 :: hexd ((n+256) / 16 % 16) :: hexd ((n+256) % 16) :: t)=n;rw [Jmx];have k':hexN [48,48,hexd ((n+256) / 16 % 16),hexd ((n+256) % 16)] 0=some n:=k;rw [k']
   have e1:at_ (qr n ++ t) 1=117:=by rw [e];rfl
   have e0:at_ (qr n ++ t) 0=92:=by rw [e];rfl
   have el:(qr n).length=6:=by rw [e];rfl
   refine ⟨?_,by rw [e0];decide,by rw [e0];decide⟩;unfold tk;rw [if_pos e0,List.drop_zero,Ud (Jh5 (by simp [el];omega) (by rw [e1];rfl) (by rw [eu];omega)) de,eu,el]
  ·have e:qr r=utf r:=by unfold qr;rw [hl];simp only;rw [if_neg h32]
   obtain ⟨h1,h2⟩:=Rp h t;have hp:=I4 r;have hcs:=Gq (s:=utf r ++ t) (i:=0) omg;rw [e];refine ⟨?_,by omega,by omega⟩;unfold tk;rw [if_neg omg,h1,List.drop_zero,List.take_left]
 ·have e:qr r=[92,UInt8.ofNat c]:=by unfold qr;rw [hl]
  have e0:at_ (qr r ++ t) 0=92:=by rw [e];rfl
  have el:(qr r).length=2:=by rw [e];rfl
  refine ⟨?_,by rw [e0];decide,by rw [e0];decide⟩;unfold tk;rw [if_pos e0,List.drop_zero,el,e];rw [show [92,UInt8.ofNat c] ++ t=92 :: UInt8.ofNat c :: t from rfl,Ud (Jig hs hc) de,Int.toNat_of_nonneg h0]
theorem Jju:∀ (rs:List Int) (s t:List UInt8) (f i:Nat) (out:List UInt8),AllR rs→s.drop i=wq rs ++ 34 :: t→s.length<i+f→uqF s f i out=(out ++ utfs rs,i+(wq rs).length+1,0)
 | rs,s,t,0,i,out,_,hd,hf=>by
  have hl:=congrArg List.length hd;simp at hl;omega
 | [],s,t,f+1,i,out,_,hd,hf=>by
  have hl:=congrArg List.length hd;simp [wq] at hl;have e:at_ s i=34:=by
   rw [show i=i+0 from rfl,← Ko,hd];rfl
  rw [uqF,if_pos omg,if_pos e];simp [utfs,wq]
 | r :: rs,s,t,f+1,i,out,ha,hd,hf=>by
  have hl:=congrArg List.length hd;rw [U4,List.append_assoc] at hd;simp at hl;have hp:=qr_pos r;obtain ⟨k1,k2,k3⟩:=tk_qr ha.head (wq rs ++ 34 :: t);rw [← hd,Jna] at k1;rw [← hd,Ko,Nat.add_zero] at k2 k3;have hd2:s.drop (i+(qr r).length)=wq rs ++ 34 :: t:=by rw [← List.drop_drop,hd,List.drop_left]
  have ih:=Jju rs s t f (i+(qr r).length) (out ++ utf r) ha.tail hd2 omg;rw [uqF,if_pos omg,if_neg k2,k1,if_neg (by simp only;omega)];simp only;rw [ih,Ki,U4,List.append_assoc,List.length_append,Nat.add_assoc i]
theorem uq_wq {rs:List Int} (h:AllR rs) (t:List UInt8):uq (34 :: wq rs ++ 34 :: t)=(utfs rs,(wq rs).length+2,0):=by
 have e:at_ (34 :: wq rs ++ 34 :: t) 0=34:=rfl;unfold uq;rw [if_neg (by rw [e];simp),Jju rs _ t _ 1 [] h rfl omg];simp only [List.nil_append];congr 2;omega
theorem Jj0 (s t:List UInt8):refQ s ++ t=34 :: wrs s ++ 34 :: t:=by simp [refQ]
theorem R9 (s:List UInt8):(refQ s).length=(wrs s).length+2:=by simp [refQ]
theorem Jow {s:List UInt8} (h:valid s=true) (t:List UInt8):uq (refQ s ++ t)=(s,(refQ s).length,0):=by
 obtain ⟨rs,ha,rfl⟩:=Jb.1 h;rw [Jj0,R9,Ru rs ha,uq_wq ha]
def Jdz (l:List UInt8):Prop:=∀ i,i<l.length→32≤at_ l i∧(at_ l i=34→1≤i∧at_ l (i - 1)=92)
theorem Jdz.app {a b:List UInt8} (h1:Jdz a) (h2:Jdz b):Jdz (a ++ b):=by
 intro i hi;rw [List.length_append] at hi;by_cases h:i<a.length
 ·rw [Jx h];refine ⟨(h1 i h).1,fun e=>?_⟩;obtain ⟨k1,k2⟩:=(h1 i h).2 e;exact ⟨k1,by rw [Jx omg];exact k2⟩
 ·rw [Ib omg];have hb:=h2 (i - a.length) omg;refine ⟨hb.1,fun e=>?_⟩;obtain ⟨k1,k2⟩:=hb.2 e;refine ⟨by omega,?_⟩;rw [Ib omg,show i - 1 - a.length=i - a.length - 1 by omega];exact k2
def figs (great:Bool):List UInt8:=if great then [48,49,50,51,52,53,54,55,56,57,65,66,67,68,69,70] else [48,49,50,51,52,53,54,55,56,57,97,98,99,100,101,102]
def fig (great:Bool) (d:Nat):UInt8:=(figs great).getD d 0
def codeS (n:Nat) (great:Bool):List UInt8:=[92,117,fig great (n / 4096 % 16),fig great (n / 256 % 16),fig great (n / 16 % 16),fig great (n % 16)]
def Dv:Step:=⟨false,[],0⟩
def Bw (s:List UInt8):Step×Nat :=
 if s.take 1=[46] then
  if 0<Dm (s.drop 1) then (⟨false,(s.drop 1).take (Dm (s.drop 1)),0⟩,Dm (s.drop 1)+1)
  else if (uq (s.drop 1)).2.2≠0∨isWd (uq (s.drop 1)).1∨refQ (uq (s.drop 1)).1≠(s.drop 1).take (uq (s.drop 1)).2.1 then (Dv,0)
  else (⟨false,(uq (s.drop 1)).1,0⟩,(uq (s.drop 1)).2.1+1)
 else (Dv,0)
def eI (s:List UInt8):Int:=Lib.indexByte s (93:Int).toNat.toUInt8
def pT (s:List UInt8):List UInt8:=(s.drop 1).take ((eI s).toNat - 1)
def Ce (s:List UInt8):Step×Nat :=
 if s.take 1=[91]∧2≤eI s∧eI s≤8 then
  match Lib.atoiAll (pT s) with
  | .ok n=>if 0≤n∧n≤1000000∧Lib.itoa n=pT s then (⟨true,[],n⟩,(eI s).toNat+1) else (Dv,0)
  | _=>(Dv,0)
 else (Dv,0)
end Go.LX
namespace Go.LX
open Go Go.RowKit Go.Proofs
def PLe (x y:PV):Prop:=x=y∨(x=.snil∧y=.sl [])
def psLe:List PV→List PV→Prop
 | [],[]=>True
 | x :: xs,y :: ys=>PLe x y∧psLe xs ys
 | _,_=>False
theorem PLe.refl (x:PV):PLe x x:=.inl rfl
theorem PLe.nil:PLe .snil (.sl []):=.inr ⟨rfl,rfl⟩
theorem PLe.rep {w:World} {Im:Nat→Prop} {v:Value} {x y:PV} (h:PLe x y) (hr:PRep w Im v x):PRep w Im v y:=by
 rcases h with rfl | ⟨rfl,rfl⟩
 ·exact hr
 ·cases hr;exact PRep.slNil
theorem T7:∀ {a b:List PV},psLe a b→a.length=b.length∧∀ (i:Nat) (y:PV),b[i]? = some y→∃ x,a[i]? = some x∧PLe x y
 | [],[],_=>⟨rfl,fun i l' h=>by simp at h⟩
 | x :: a,y :: b,h=>by
  obtain ⟨h1,h2⟩:=h;obtain ⟨h3,h4⟩:=T7 h2;refine ⟨by simp [h3],fun i l' hl=>?_⟩;cases i with
  | zero=>simp at hl;subst hl;exact ⟨x,rfl,h1⟩
  | succ i=>simp at hl;simpa using h4 i l' hl
 | [],_ :: _,h=>h.elim
 | _ :: _,[],h=>h.elim
def OLe (l l':L):Prop:=l=l'∨(∃ x y,l=.p x∧l'=.p y∧PLe x y)∨∃ a b,l=.tup a∧l'=.tup b∧psLe a b
theorem OLe.rep {β:Env} {w:World} {Im:Nat→Prop} {v:Value} {l l':L} (h:OLe l l') (hr:LRep β w Im v l):LRep β w Im v l':=by
 rcases h with rfl | ⟨x,y,rfl,rfl,h⟩ | ⟨a,b,rfl,rfl,h⟩
 ·exact hr
 ·exact h.rep hr
 ·obtain ⟨vs,h1,h2,h3⟩:=hr;obtain ⟨g1,g2⟩:=T7 h;refine ⟨vs,h1,by rw [h2,g1],fun i x p hx hp=>?_⟩;obtain ⟨q,hq,hle⟩:=g2 i p hp;exact hle.rep (h3 i x q hx hq)
attribute [local irreducible] Al Bi SWP
def Ee (s:List UInt8) (i:Nat):Step×Nat :=
 if (Bw (s.drop i)).2≠0 then Bw (s.drop i)
 else if i=0 then (if s.take 1=[46]∧(Ce (s.drop 1)).2≠0 then ((Ce (s.drop 1)).1,(Ce (s.drop 1)).2+1) else (Dv,0))
 else Ce (s.drop i)
def Fl (s:List UInt8):Nat→Nat→List Step→List Step×Nat
 | 0,i,p=>(p,i)
 | f+1,i,p=>if i<s.length∧p.length<20∧(Ee s i).2≠0 then Fl s f (i+(Ee s i).2) (p ++ [(Ee s i).1]) else (p,i)
def Mp (s:List UInt8):List Step×Nat:=Fl s (s.length+1) 0 []
def Je (s:List UInt8):List Step×Nat×Nat :=
 if s=[46] then ([],0,0)
 else if (Mp s).2<s.length∨(Mp s).1.length=0 then ([],(Mp s).2,1)
 else ((Mp s).1,0,0)
def Bv (x:Step):List UInt8:=if x.part=true then 91 :: (Lib.itoa x.n ++ [93]) else if isWd x.name then 46 :: x.name else 46 :: refQ x.name
def Br (p:List Step):List UInt8:=p.flatMap Bv
def textR (p:List Step):List UInt8:=match p with
 | []=>[]
 | x :: _=>if x.part=true then 46 :: Br p else Br p
def isDg (c:Nat):Prop:=48≤c∧c≤57
instance (c:Nat):Decidable (isDg c):=inferInstanceAs (Decidable (_∧_))
def dgR:Nat→List UInt8→List UInt8
 | k+1,c :: r=>if isDg c.toNat then c :: dgR k r else []
 | _,_=>[]
def valD (l:List UInt8):Nat:=l.foldl (fun a c=>a * 10+(c.toNat - 48)) 0
theorem Fv (m:Nat):Lib.decDigits m=if m<10 then [UInt8.ofNat (48+m)] else Lib.decDigits (m / 10) ++ [UInt8.ofNat (48+m % 10)]:=by
 rw [Lib.decDigits];split <;> rfl
theorem Qj {m:Nat} (h:m<10):(UInt8.ofNat (48+m)).toNat=48+m:=by
 rw [UInt8.toNat_ofNat'];omega
theorem Jmj:∀ m:Nat,∀ c∈Lib.decDigits m,isDg c.toNat:=by
 intro m
 induction m using Nat.strongRecOn with
 | _ m ih =>
  intro c hc;rw [Fv] at hc;split at hc
  ·rw [List.mem_singleton] at hc;subst hc;rw [Qj (by assumption)];unfold isDg;omega
  ·rcases List.mem_append.1 hc with hc | hc
   ·exact ih (m / 10) omg c hc
   ·rw [List.mem_singleton] at hc;subst hc;rw [Qj omg];unfold isDg;omega
theorem U6 (m:Nat):Lib.decDigits m≠[]:=by
 rw [Fv];split <;> simp
def F8 (x y:Step):Prop:=x.part=y.part∧x.name=y.name∧x.n=y.n
instance (x y:Step):Decidable (F8 x y):=inferInstanceAs (Decidable (_∧_))
theorem Dc {x y:Step}:F8 x y ↔ x=y:=by
 unfold F8;constructor
 ·rintro ⟨h1,h2,h3⟩;cases x;cases y;simp_all
 ·rintro rfl;exact ⟨rfl,rfl,rfl⟩
def B7:List Step→List Step→Bool
 | x :: p,y :: q=>!decide (F8 x y) || B7 p q
 | _,_=>false
instance:DecidableEq Step:=fun x y=>decidable_of_iff _ (Dc (x:=x) (y:=y))
def inT:Tree→Step→Except Nat Tree
 | .mk k _ _ _ kids,x =>
  if x.part=true then (if k≠5 then .error 5 else match kids.list[x.n.toNat]? with
   | some p=>.ok p.2
   | none=>.error 6)
  else (if k≠6 then .error 5 else match Ch x.name kids.list with
   | some t=>.ok t
   | none=>.error 6)
theorem Iz {k:Int} {s:List UInt8} {g:Bool} {e:Int} {kids:Forest} {x:Step} (hp:x.part=true) (hk:¬ k=5):inT (.mk k s g e kids) x=.error 5:=by
 show (if x.part=true then (if k≠5 then Except.error 5 else _) else _)=_;rw [if_pos hp,if_pos hk]
theorem Iw {k:Int} {s:List UInt8} {g:Bool} {e:Int} {kids:Forest} {x:Step} (hp:x.part=false) (hk:¬ k=6):inT (.mk k s g e kids) x=.error 5:=by
 show (if x.part=true then _ else (if k≠6 then Except.error 5 else _))=_;rw [if_neg (by simp [hp]),if_pos hk]
theorem Tm {s:List UInt8} {g:Bool} {e:Int} {kids:Forest} {x:Step} (hp:x.part=true):inT (.mk 5 s g e kids) x=match kids.list[x.n.toNat]? with
   | some p=>.ok p.2
   | none=>.error 6:=by
 show (if x.part=true then _ else _)=_;rw [if_pos hp];rfl
theorem Tp {s:List UInt8} {g:Bool} {e:Int} {kids:Forest} {x:Step} (hp:x.part=false):inT (.mk 6 s g e kids) x=match Ch x.name kids.list with
   | some t=>.ok t
   | none=>.error 6:=by
 show (if x.part=true then _ else _)=_;rw [if_neg (by simp [hp])];rfl
def getT:List Step→Tree→Except Nat Tree
 | [],t=>.ok t
 | x :: p,t=>match inT t x with
  | .ok u=>getT p u
  | .error e=>.error e
theorem H2 {name:List UInt8}:∀ {l:List (List UInt8×Tree)} {t:Tree},Ch name l=some t→∃ p∈l,p.2=t∧p.1=name
 | [],t,h=>by cases h
 | p :: l,t,h=>by
  rw [Ch] at h;split at h
  ·cases h;exact ⟨p,List.mem_cons_self,rfl,by assumption⟩
  ·obtain ⟨q,h1,h2⟩:=H2 h;exact ⟨q,List.mem_cons_of_mem _ h1,h2⟩
end Go.LX
namespace Go.LX
open Go Go.RowKit Go.Proofs
section
variable {X:Cx} {ro:Option Nat} {c:Code} {Q:Ex→St→Prop}
theorem SWP.at {s:St} (s0:St) (h:SWP X ro c (fun e s'=>e=.normal∧s'.Le s0) s) (hQ:Q .normal s0):SWP X ro c Q s:=fun Γ a w hG hr =>
 wpIn_mono (h Γ a w hG hr) fun e a w hq=>by
  cases e with
  | normal=>obtain ⟨s',⟨_,h1⟩,h2⟩:=hq;exact ⟨s0,hQ,h1 Γ a w h2⟩
  | exit id=>obtain ⟨s',⟨h1,_⟩,h2⟩:=hq;cases h1
  | ret=>obtain ⟨s',⟨h1,_⟩,h2⟩:=hq;cases h1
  | goto l=>exact hq.elim
  | panic c=>exact hq.elim
  | outgrown=>exact hq.elim
theorem Jxq {s:St} {d:Nat} {T:TypeId} {es:List (List PV)} (hd:Am d s.regs=some (.row T 1 es)) (h0:0<es.length)
  (h:∀ k,SWP X ro c Q { s with regs:=Bs d (.lrow T 1 true (es.map (List.map L.p) ++ List.replicate k [L.junk])) s.regs }):SWP X ro c Q s:=by
 intro Γ a w hG ⟨ms,hdef,β,Im,hx⟩;have hmem:=Ax hd;rcases hx.fit.regs d _ hmem with ⟨_,rfl⟩ | ⟨loc,cur,hβ,hlz,hbk,hcl,hle,hml,hel,hcell⟩
 ·simp at h0
 refine h (loc.tot - es.length) Γ a w hG ⟨ms,hdef,β,Im,hx.store hmem hβ rfl rfl rfl rfl (fun _ _=>rfl) (.inr ?_)⟩;have hll:(es.map (List.map L.p) ++ List.replicate (loc.tot - es.length) [L.junk]).length=loc.tot:=by simp;omega
 refine ⟨loc,cur,hβ,hlz,hbk,hcl,by rw [hll];exact Nat.le_refl _,fun _=>hll,hml,fun e he=>?_,fun i e j l hi hj=>?_⟩
 ·rcases List.mem_append.1 he with he | he
  ·obtain ⟨q,hq,rfl⟩:=List.mem_map.1 he;rw [List.length_map];exact (hel q hq).1
  ·rw [List.eq_of_mem_replicate he];rfl
 ·by_cases hlt:i<es.length
  ·rw [List.getElem?_append_left (by simpa using hlt),List.getElem?_map] at hi;obtain ⟨q,hq,rfl⟩:=Option.map_eq_some_iff.1 hi;rw [List.getElem?_map] at hj;obtain ⟨p,hp,rfl⟩:=Option.map_eq_some_iff.1 hj;obtain ⟨v,hv,hr⟩:=hcell i q j p hq hp;exact ⟨v,hv,hr,.inl ((hel q (List.mem_of_getElem? hq)).2 p (List.mem_of_getElem? hp))⟩
  ·rw [List.getElem?_append_right (by simpa using hlt)] at hi;simp only [List.length_map] at hi;obtain ⟨hi1,rfl⟩:=List.getElem?_eq_some_iff.1 hi;simp only [List.length_replicate] at hi1;simp only [List.getElem_replicate] at hj;have hj0:j=0:=by have:=(List.getElem?_eq_some_iff.1 hj).1;simp at this;exact this
   subst hj0;simp at hj;subst hj;have hc:i * 1+0<cur.length:=by rw [hcl];omega
   exact ⟨_,List.getElem?_eq_getElem hc,trivial,.inr rfl⟩
theorem Jvk {s:St} {d:Nat} {T:TypeId} {f:Bool} {ls:List (List L)} {es:List (List PV)} (n:Nat) (hd:Am d s.regs=some (.lrow T 1 f ls)) (hp:Cb (ls.take n)=some es):s.Le { s with regs:=Bs d (.row T 1 es) s.regs }:=by
 rintro Γ a w ⟨ms,hdef,β,Im,hx⟩;have hmem:=Ax hd;obtain ⟨pl,pp⟩:=Dh hp;by_cases hβ:∃ loc,β d=some loc
 ·obtain ⟨loc,hβ⟩:=hβ;refine ⟨ms,hdef,β,Im,hx.store hmem hβ rfl rfl rfl rfl (fun _ _=>rfl) ?_⟩;rcases hx.fit.regs d _ hmem with ⟨hn,rfl⟩ | ⟨loc',cur,hβ',hlz,hbk,hcl,hle,hfu,hml,hel,hcell⟩
  ·rw [hβ] at hn;cases hn
  ·rw [hβ] at hβ';cases hβ';have key:∀ (i:Nat) (q:List PV),es[i]? = some q→∃ e,ls[i]? = some e∧e.length=q.length∧∀ (j:Nat) (p:PV),q[j]? = some p→e[j]? = some (.p p):=by
    intro i q hq;obtain ⟨e,he,ha⟩:=pp i q hq;have he':ls[i]? = some e:=by
     rw [List.getElem?_take] at he;split at he
     ·exact he
     ·cases he
    obtain ⟨al,ag⟩:=Bh ha;refine ⟨e,he',al,fun j p hj=>?_⟩;obtain ⟨l,hl'⟩:=getElem?_of_length al hj;have h1:=ag j l p hl' hj;cases l <;> simp [L.pure?] at h1;subst h1;exact hl'
   refine .inr ⟨loc,cur,hβ,hlz,hbk,hcl,by rw [← pl,List.length_take];omega,hml,fun q hq=>?_,fun i q j p hi hj=>?_⟩
   ·obtain ⟨i,hi,rfl⟩:=List.getElem_of_mem hq;obtain ⟨e,he,h1,h2⟩:=key i _ (List.getElem?_eq_getElem hi);refine ⟨by rw [← h1];exact hel e (List.mem_of_getElem? he),fun p hp=>?_⟩;obtain ⟨j,hj,rfl⟩:=List.getElem_of_mem hp;obtain ⟨v,_,_,hco⟩:=hcell i e j _ he (h2 j _ (List.getElem?_eq_getElem hj));rcases hco with hco | hco
    ·exact hco
    ·cases hco
   ·obtain ⟨e,he,h1,h2⟩:=key i q hi;obtain ⟨v,hv,hr,_⟩:=hcell i e j _ he (h2 j p hj);exact ⟨v,hv,hr⟩
 ·have hn:β d=none:=by
   cases hb:β d with
   | none=>rfl
   | some loc=>exact absurd ⟨loc,hb⟩ hβ
  have hls:ls=[]:=by
   rcases hx.fit.regs d _ hmem with ⟨_,h⟩ | ⟨loc',cur,hβ',_⟩
   ·exact h
   ·rw [hn] at hβ';cases hβ'
  subst hls;have:es=[]:=List.eq_nil_of_length_eq_zero (by simpa using pl.symm);subst this;have hf:=hx.fit;refine ⟨ms,hdef,β,Im,{ hx with fit:={ hf with regs:=fun e q hq=>?_,nodup:=by simp only [Kd];exact hf.nodup,live:=fun e q loc hq hl=>?_,apart:=fun e q e' q' l1 l2 hq hq' hne h1 h2=>?_ },regnew:=fun e q loc hq hl=>?_,marks:=fun D hD=>?_ }⟩
  all_goals
   have key:∀ e q,(e,q)∈Bs d (.row T 1 []) s.regs→∃ q',(e,q')∈s.regs:=by
    intro e q hq;rcases Ds hf.nodup hq with ⟨rfl,rfl,q',hq'⟩ | ⟨hne,hm⟩
    ·exact ⟨q',hq'⟩
    ·exact ⟨q,hm⟩
  ·rcases Ds hf.nodup hq with ⟨rfl,rfl,_⟩ | ⟨hne,hm⟩
   ·exact .inl ⟨hn,rfl⟩
   ·exact hf.regs e q hm
  ·obtain ⟨q',hq'⟩:=key e q hq;exact hf.live e q' loc hq' hl
  ·obtain ⟨p1,hp1⟩:=key e q hq;obtain ⟨p2,hp2⟩:=key e' q' hq';exact hf.apart e p1 e' p2 l1 l2 hp1 hp2 hne h1 h2
  ·obtain ⟨q',hq'⟩:=key e q hq;exact hx.regnew e q' loc hq' hl
  ·obtain ⟨m1,m2,m3,m4⟩:=hx.marks D hD;exact ⟨m1,m2,m3,fun e q loc hq hl=>by obtain ⟨q',hq'⟩:=key e q hq;exact m4 e q' loc hq' hl⟩
theorem J2j {s:St} {d:Nat} {T:TypeId} {f:Bool} {ls:List (List L)} {es:List (List PV)} (n:Nat) (hd:Am d s.regs=some (.lrow T 1 f ls)) (hp:Cb (ls.take n)=some es)
  (h:SWP X ro c Q { s with regs:=Bs d (.row T 1 es) s.regs }):SWP X ro c Q s:=Jq8 (Jvk n hd hp) h
theorem Jq:∀ es:List (List PV),Cb (es.map (List.map L.p))=some es
 | []=>rfl
 | e :: es=>by
  have h:∀ e:List PV,Bg L.pure? (e.map L.p)=some e:=by
   intro e
   induction e with
   | nil=>rfl
   | cons p e ih=>simp only [List.map_cons,Bg,L.pure?,ih]
  simp only [List.map_cons,Cb,h,Jq es]
theorem Gd {es:List (List PV)} {r:List (List L)} {n:Nat} (h:n≤es.length):Cb ((es.map (List.map L.p) ++ r).take n)=some (es.take n):=by
 rw [List.take_append_of_le_length (by simpa using h),← List.map_take,Jq]
end
theorem J5o {X:Cx} {f:FuncId} {args:List L} {rs rest:Regs} {l:L} {T:TypeId} {es:List (List PV)} (n:Nat)
  (h:Al X f args rs fun m q=>m=l∧(q=(900,.row T 1 es) :: rest∨∃ b ls,q=(900,.lrow T 1 b ls) :: rest∧Cb (ls.take n)=some es)):Det X f args rs l ((900,.row T 1 es) :: rest):=by
 refine ⟨h.1,fun β Im w vs hg hf=>(h.2 β Im w vs hg hf).mono fun e w' ⟨v,m,rs',β',Im',he,⟨hm,hq⟩,hr,hc⟩=>?_⟩;rcases hq with rfl | ⟨b,ls,rfl,hp⟩
 ·exact ⟨v,m,_,β',Im',he,⟨hm,rfl⟩,hr,hc⟩
 ·refine ⟨v,m,_,β',Im',he,⟨hm,rfl⟩,hr,?_⟩;obtain ⟨pl,pp⟩:=Dh hp;have hf':=hc.fit;have key:∀ d r,(d,r)∈(900,Reg.row T 1 es) :: rest→∃ r',(d,r')∈(900,Reg.lrow T 1 b ls) :: rest:=by
   intro d r hd;rcases List.mem_cons.1 hd with hd | hd
   ·cases hd;exact ⟨_,List.mem_cons_self⟩
   ·exact ⟨r,List.mem_cons_of_mem _ hd⟩
  have hreg:Ci β' w' Im' 900 (.row T 1 es):=by
   rcases hf'.regs 900 _ List.mem_cons_self with ⟨hn,rfl⟩ | ⟨loc,cur,hβ,hlz,hbk,hcl,hle,hfu,hml,hel,hcell⟩
   ·refine .inl ⟨hn,List.eq_nil_of_length_eq_zero (by simpa using pl.symm)⟩
   ·have key:∀ (i:Nat) (q:List PV),es[i]? = some q→∃ e,ls[i]? = some e∧e.length=q.length∧∀ (j:Nat) (p:PV),q[j]? = some p→e[j]? = some (.p p):=by
     intro i q hq;obtain ⟨e,he,ha⟩:=pp i q hq;have he':ls[i]? = some e:=by
      rw [List.getElem?_take] at he;split at he
      ·exact he
      ·cases he
     obtain ⟨al,ag⟩:=Bh ha;refine ⟨e,he',al,fun j p hj=>?_⟩;obtain ⟨l,hl'⟩:=getElem?_of_length al hj;have h1:=ag j l p hl' hj;cases l <;> simp [L.pure?] at h1;subst h1;exact hl'
    refine .inr ⟨loc,cur,hβ,hlz,hbk,hcl,by rw [← pl,List.length_take];omega,hml,fun q hq=>?_,fun i q j p hi hj=>?_⟩
    ·obtain ⟨i,hi,rfl⟩:=List.getElem_of_mem hq;obtain ⟨e,he,h1,h2⟩:=key i _ (List.getElem?_eq_getElem hi);refine ⟨by rw [← h1];exact hel e (List.mem_of_getElem? he),fun p hp=>?_⟩;obtain ⟨j,hj,rfl⟩:=List.getElem_of_mem hp;obtain ⟨v,_,_,hco⟩:=hcell i e j _ he (h2 j _ (List.getElem?_eq_getElem hj));rcases hco with hco | hco
     ·exact hco
     ·cases hco
    ·obtain ⟨e,he,h1,h2⟩:=key i q hi;obtain ⟨v,hv,hr,_⟩:=hcell i e j _ he (h2 j p hj);exact ⟨v,hv,hr⟩
  refine { hc with keys:=fun d r hd=>(key d r hd).elim fun r' h'=>hc.keys d r' h',regnew:=fun d r loc hd hl=>(key d r hd).elim fun r' h'=>hc.regnew d r' loc h' hl,fit:={ size:=hf'.size,tmps:=hf'.tmps,im:=hf'.im,regs:=fun d r hd=>?_,nodup:=hf'.nodup,live:=fun d r loc hd hl=>(key d r hd).elim fun r' h'=>hf'.live d r' loc h' hl,apart:=fun d r d' r' l1 l2 hd hd' hne h1 h2=>(key d r hd).elim fun r1 h1'=>(key d' r' hd').elim fun r2 h2'=>hf'.apart d r1 d' r2 l1 l2 h1' h2' hne h1 h2 } };rcases List.mem_cons.1 hd with hd | hd
  ·cases hd;exact hreg
  ·exact hf'.regs d r (List.mem_cons_of_mem _ hd)
theorem Al.sub {X:Cx} {f:FuncId} {args:List L} {rs:Regs} {Post Post':L→Regs→Prop} (h:Al X f args rs Post) (hp:∀ m q,Post m q→∃ q0,q0.Sublist q∧Post' m q0):Al X f args rs Post':=by
 refine ⟨h.1,fun β Im w vs hg hf=>(h.2 β Im w vs hg hf).mono fun e w' ⟨v,m,rs',β',Im',he,hP,hr,hc⟩=>?_⟩;obtain ⟨q0,hs,hP'⟩:=hp m rs' hP;have hf':=hc.fit;have key:∀ d r,(d,r)∈q0→(d,r)∈rs':=fun d r hd=>hs.subset hd
 exact ⟨v,m,q0,β',Im',he,hP',hr,{ hc with keys:=fun d r hd=>hc.keys d r (key d r hd),regnew:=fun d r loc hd hl=>hc.regnew d r loc (key d r hd) hl,fit:={ size:=hf'.size,tmps:=hf'.tmps,im:=hf'.im,regs:=fun d r hd=>hf'.regs d r (key d r hd),nodup:=hf'.nodup.sublist (hs.map _),live:=fun d r loc hd hl=>hf'.live d r loc (key d r hd) hl,apart:=fun d r d' r' l1 l2 hd hd' hne h1 h2=>hf'.apart d r d' r' l1 l2 (key d r hd) (key d' r' hd') hne h1 h2 } }⟩
attribute [local irreducible] Al Bi SWP
def Cq (x:List UInt8):List (List UInt8)→Nat
 | []=>0
 | s :: l=>if Op.bytesLess s x=true then Cq x l+1 else 0
def strL (l:List (List UInt8)):List (List PV):=l.map fun s=>[.str s]
end Go.LX
namespace Go.LX
open Go
theorem E0:∀ a:List UInt8,Op.bytesLess a a=false
 | []=>rfl
 | x :: a=>by simp [Op.bytesLess,E0 a]
theorem H8:∀ {a b c:List UInt8},Op.bytesLess a b=true→Op.bytesLess b c=true→Op.bytesLess a c=true
 | _,[],_,h,_=>by simp [Op.bytesLess] at h
 | _,_ :: _,[],_,h=>by simp [Op.bytesLess] at h
 | [],_ :: _,_ :: _,_,_=>rfl
 | x :: a,y :: b,z :: c,h1,h2=>by
  simp only [Op.bytesLess,Bool.or_eq_true,decide_eq_true_eq,Bool.and_eq_true,beq_iff_eq] at h1 h2 ⊢;rcases h1 with h1 | ⟨rfl,h1⟩
  ·rcases h2 with h2 | ⟨rfl,h2⟩
   ·exact .inl (UInt8.lt_trans h1 h2)
   ·exact .inl h1
  ·rcases h2 with h2 | ⟨rfl,h2⟩
   ·exact .inl h2
   ·exact .inr ⟨rfl,H8 h1 h2⟩
theorem L3 {a b:List UInt8} (h:Op.bytesLess a b=true):Op.bytesLess b a=false:=by
 cases h':Op.bytesLess b a with
 | false=>rfl
 | true=>have:=H8 h h';rw [E0] at this;cases this
theorem bl_ne {a b:List UInt8} (h:Op.bytesLess a b=true):a≠b:=by
 rintro rfl;rw [E0] at h;cases h
theorem Qf:∀ {a b:List UInt8},Op.bytesLess a b=false→a≠b→Op.bytesLess b a=true
 | [],[],_,h=>absurd rfl h
 | [],_ :: _,h,_=>by simp [Op.bytesLess] at h
 | _ :: _,[],_,_=>rfl
 | x :: a,y :: b,h1,h2=>by
  simp only [Op.bytesLess,Bool.or_eq_false_iff,decide_eq_false_iff_not,Bool.and_eq_false_imp,beq_iff_eq] at h1;simp only [Op.bytesLess,Bool.or_eq_true,decide_eq_true_eq,Bool.and_eq_true,beq_iff_eq];obtain ⟨h3,h4⟩:=h1;by_cases hxy:x=y
  ·subst hxy;exact .inr ⟨rfl,Qf (h4 rfl) (by rintro rfl;exact h2 rfl)⟩
  ·left;rcases UInt8.lt_or_lt_of_ne hxy with h | h
   ·exact absurd h h3
   ·exact h
def nle (a b:List UInt8):Prop:=Op.bytesLess b a=false
abbrev KT:=List UInt8×Tree
def Rise (l:List KT):Prop:=l.Pairwise fun a b=>Op.bytesLess a.1 b.1=true
theorem Rise.tail {p:KT} {l:List KT} (h:Rise (p :: l)):Rise l:=(List.pairwise_cons.1 h).2
theorem Rise.nodup {l:List KT} (h:Rise l):(l.map (·.1)).Nodup:=by
 unfold List.Nodup;rw [List.pairwise_map];exact List.Pairwise.imp (fun h=>bl_ne h) h
def putL (name:List UInt8) (t:Tree):List KT→List KT
 | []=>[(name,t)]
 | p :: l=>if Op.bytesLess p.1 name=true then p :: putL name t l else (name,t) :: p :: l
def E1:List Bool→List KT→List KT
 | b :: D,p :: l=>if b=true then E1 D l else p :: E1 D l
 | _,_=>[]
def cntT:List Bool→Nat
 | []=>0
 | b :: D=>if b=true then cntT D+1 else cntT D
theorem Jdj:∀ D,cntT D≤D.length
 | []=>Nat.le_refl _
 | b :: D=>by have:=Jdj D;simp only [cntT,List.length_cons];split <;> omega
theorem Ya:∀ {D:List Bool} {b:Nat},D[b]? = some false→cntT (D.set b true)=cntT D+1
 | [],b,h=>by simp at h
 | x :: D,0,h=>by simp at h;subst h;simp [cntT]
 | x :: D,b+1,h=>by
  simp only [List.set_cons_succ,cntT,Ya (D:=D) (b:=b) (by simpa using h)];split <;> rfl
theorem Rn:∀ {D:List Bool} {l:List KT},cntT D=D.length→E1 D l=[]
 | [],_,_=>rfl
 | x :: D,[],_=>rfl
 | x :: D,p :: l,h=>by
  have:=Jdj D;cases x
  ·simp [cntT] at h;omega
  ·simp [cntT] at h;simp only [E1,if_true];exact Rn h
theorem Nf:∀ {D:List Bool} {l:List KT} {p:KT},p∈E1 D l→∃ j:Nat,l[j]? = some p∧D[j]? = some false
 | [],_,p,h=>by simp [E1] at h
 | x :: D,[],p,h=>by simp [E1] at h
 | x :: D,q :: l,p,h=>by
  unfold E1 at h;split at h
  ·obtain ⟨j,h1,h2⟩:=Nf h;exact ⟨j+1,by simpa using h1,by simpa using h2⟩
  ·rename_i hx;rcases List.mem_cons.1 h with rfl | h
   ·exact ⟨0,rfl,by simpa using hx⟩
   ·obtain ⟨j,h1,h2⟩:=Nf h;exact ⟨j+1,by simpa using h1,by simpa using h2⟩
theorem Ol:∀ {D:List Bool} {l:List KT} {p:KT} {j:Nat},l[j]? = some p→D[j]? = some false→p∈E1 D l
 | [],_,_,_,_,h=>by simp at h
 | _ :: _,[],_,_,h,_=>by simp at h
 | x :: D,q :: l,p,0,h,h'=>by
  simp at h h';subst h;subst h';simp [E1]
 | x :: D,q :: l,p,j+1,h,h'=>by
  have:=Ol (D:=D) (l:=l) (j:=j) (by simpa using h) (by simpa using h');unfold E1;split
  ·exact this
  ·exact List.mem_cons_of_mem _ this
theorem Qi:∀ {D:List Bool} {l:List KT} {p:KT} {j:Nat},l[j]? = some p→D[j]? = some false→(E1 D l).Perm (p :: E1 (D.set j true) l)
 | [],_,_,_,_,h=>by simp at h
 | _ :: _,[],_,_,h,_=>by simp at h
 | x :: D,q :: l,p,0,h,h'=>by
  simp at h h';subst h;subst h';simp [E1]
 | x :: D,q :: l,p,j+1,h,h'=>by
  have:=Qi (D:=D) (l:=l) (j:=j) (by simpa using h) (by simpa using h');simp only [List.set_cons_succ,E1];split
  ·exact this
  ·exact (this.cons q).trans (.swap _ _ _)
structure Picks (l S:List KT) (D:List Bool):Prop where
 len:D.length=l.length
 cnt:cntT D=S.length
 perm:(S ++ E1 D l).Perm l
 rise:Rise S
 low:∀ s∈S,∀ p∈E1 D l,nle s.1 p.1
theorem Picks.done {l S:List KT} {D:List Bool} (h:Picks l S D) (hn:S.length=l.length):S.Perm l:=by
 have:=h.perm;rw [Rn (by rw [h.cnt,hn,h.len]),List.append_nil] at this;exact this
theorem Picks.next {l S:List KT} {D:List Bool} (h:Picks l S D) {b:Nat} {p:KT} (hp:l[b]? = some p) (hb:D[b]? = some false) (hm:∀ (j:Nat) (q:KT),l[j]? = some q→D[j]? = some false→nle p.1 q.1) (hl:∀ q,S.getLast? = some q→q.1≠p.1):Picks l (S ++ [p]) (D.set b true):=by
 have hpr:=Ol hp hb;have ht:=Qi hp hb;refine ⟨by simp [h.len],by rw [Ya hb,h.cnt];simp,?_,?_,?_⟩
 ·rw [List.append_assoc];exact ((List.Perm.append_left S ht.symm)).trans h.perm
 ·refine List.pairwise_append.2 ⟨h.rise,List.pairwise_singleton _ _,fun s hs q hq=>?_⟩;rw [List.mem_singleton] at hq;subst hq;have h1:=h.low s hs q hpr;by_cases e:s.1=q.1
  ·exfalso;obtain ⟨S',z,rfl⟩:∃ S' z,S=S' ++ [z]:=by
    rcases List.eq_nil_or_concat S with rfl | ⟨S',z,rfl⟩
    ·cases hs
    ·exact ⟨S',z,by simp⟩
   have hz:=hl z sm;have h2:=h.low z sm q hpr;have h3:=Qf (a:=q.1) (b:=z.1) h2 (Ne.symm hz);rcases List.mem_append.1 hs with hs | hs
   ·have h4:=(List.pairwise_append.1 h.rise).2.2 s hs z sm;rw [e] at h4;have:=L3 h4;rw [h3] at this;cases this
   ·rw [List.mem_singleton] at hs;subst hs;exact hz e
  ·exact Qf (a:=q.1) (b:=s.1) h1 (Ne.symm e)
 ·intro s hs q hq;have hq':q∈E1 D l:=ht.mem_iff.2 (List.mem_cons_of_mem _ hq);rcases List.mem_append.1 hs with hs | hs
  ·exact h.low s hs q hq'
  ·rw [List.mem_singleton] at hs;subst hs;obtain ⟨j,h1,h2⟩:=Nf hq';exact hm j q h1 h2
end Go.LX
namespace Go.LX
open Go Go.RowKit Go.Proofs
attribute [local irreducible] Al SWP Bi
theorem N8 (name:List UInt8):∀ l:List KT,(A8 name l).Sublist l
 | []=>.slnil
 | p :: l=>by
  simp only [A8];split
  ·exact (N8 name l).cons _
  ·exact (N8 name l).cons_cons _
theorem Rise.kept {l:List KT} (h:Rise l) (name:List UInt8):Rise (A8 name l):=List.Pairwise.sublist (N8 name l) h
def J7 (D:List Bool):List (List PV):=D.map fun b=>[.bool b]
end Go.LX
namespace Go.LX
open Go
def Ja8 (c:UInt8):Bool:=decide (48≤c.toNat) && decide (c.toNat≤57)
def Pk (s:List UInt8):Bool:=s.all Ja8
def Yz (s:List UInt8) (g:Bool) (e:Int):Prop :=
 Pk s=true∧s.length≤100∧-1000≤e∧e≤1000∧(s.length:Int)+e≤1000∧(if s=[] then g=false∧e=0 else at_ s 0≠48∧at_ s (s.length - 1)≠48)
instance (s:List UInt8) (g:Bool) (e:Int):Decidable (Yz s g e):=by unfold Yz;infer_instance
def G3 (k:Int) (s:List UInt8) (g:Bool) (e:Int) (m:Int):Prop :=
 if k=0∨k=1∨k=2 then m=0∧s=[]∧g=false∧e=0 else if k=3 then m=0∧Yz s g e else if k=4 then valid s=true∧m=0∧g=false∧e=0 else if k=5∨k=6 then 0≤m∧s=[]∧g=false∧e=0 else False
instance (k:Int) (s:List UInt8) (g:Bool) (e m:Int):Decidable (G3 k s g e m):=by unfold G3;infer_instance
def Eh (k:Int) (l:List KT):Prop:=(k=5→∀ p∈l,p.1=[])∧(∀ p∈l,valid p.1=true)∧(k=6→Rise l)
mutual
def okT:Tree→Prop
 | .mk k s g e kids=>G3 k s g e kids.len∧Eh k kids.list∧okF kids
def okF:Forest→Prop
 | .nil=>True
 | .cons _ t r=>okT t∧okF r
end
theorem Lu {k:Int} {s:List UInt8} {g:Bool} {e:Int} {kids:Forest}:okT (.mk k s g e kids) ↔ G3 k s g e kids.len∧Eh k kids.list∧okF kids:=by rw [okT]
theorem Fs {nm:List UInt8} {t:Tree} {r:Forest}:okF (.cons nm t r) ↔ okT t∧okF r:=by rw [okF]
theorem I6:okF .nil:=by rw [okF];trivial
theorem Jdq:∀ {a b:Forest},okF (a.app b) ↔ okF a∧okF b
 | .nil,b=>by simp [Forest.app,I6]
 | .cons nm t r,b=>by rw [Forest.app,Fs,Fs,Jdq (a:=r)];exact and_assoc.symm
theorem Jjp {nm:List UInt8} {k:Int} {s:List UInt8} {g:Bool} {e:Int} {kids r:Forest}:okF (.cons nm (.mk k s g e kids) r) ↔ G3 k s g e kids.len∧Eh k kids.list∧okF (kids.app r):=by
 rw [Fs,Lu,Jdq];constructor
 ·rintro ⟨⟨h1,h2,h3⟩,h4⟩;exact ⟨h1,h2,h3,h4⟩
 ·rintro ⟨h1,h2,h3,h4⟩;exact ⟨⟨h1,h2,h3⟩,h4⟩
theorem Jdo:∀ {f:Forest},okF f ↔ ∀ p∈f.list,okT p.2
 | .nil=>by simp [Forest.list,I6]
 | .cons nm t r=>by rw [Fs,Jdo (f:=r),Forest.list,List.forall_mem_cons]
theorem Sb (k:Int):Eh k []:=⟨by simp,by simp,fun _=>.nil⟩
theorem Jaa {k:Int} {p:KT} {l:List KT}:Eh k (p :: l) ↔ (k=5→p.1=[])∧valid p.1=true∧(k=6→∀ q,l.head? = some q→Op.bytesLess p.1 q.1=true)∧Eh k l:=by
 unfold Eh;constructor
 ·rintro ⟨h1,h2,h3⟩;refine ⟨fun hk=>h1 hk p List.mem_cons_self,h2 p List.mem_cons_self,fun hk q hq=>?_,fun hk q hq=>h1 hk q (List.mem_cons_of_mem _ hq),fun q hq=>h2 q (List.mem_cons_of_mem _ hq),fun hk=>(h3 hk).tail⟩;exact (List.pairwise_cons.1 (h3 hk)).1 q (List.mem_of_head? hq)
 ·rintro ⟨h1,h2,h3,h4,h5,h6⟩;refine ⟨fun hk q hq=>?_,fun q hq=>?_,fun hk=>List.pairwise_cons.2 ⟨fun q hq=>?_,h6 hk⟩⟩
  ·rcases List.mem_cons.1 hq with rfl | hq
   ·exact h1 hk
   ·exact h4 hk q hq
  ·rcases List.mem_cons.1 hq with rfl | hq
   ·exact h2
   ·exact h5 q hq
  ·cases l with
   | nil=>cases hq
   | cons r l =>
    have h7:=h3 hk r rfl;rcases List.mem_cons.1 hq with rfl | hq
    ·exact h7
    ·exact H8 h7 ((List.pairwise_cons.1 (h6 hk)).1 q hq)
def nxt (L:Nat):List Node→Nat→Option Nat
 | _,0=>some 0
 | [],_+1=>none
 | n :: r,o+1=>if n.many<0∨(L:Int)<n.many then none else (nxt L r (o+n.many.toNat)).map (· + 1)
theorem Jua:∀ (m:Nat) (F:Forest),m≤F.len→∃ A B:Forest,F=A.app B∧A.len=m
 | 0,F,_=>⟨.nil,F,rfl,rfl⟩
 | m+1,.nil,h=>by simp [Forest.len] at h
 | m+1,.cons nm t r,h=>by
  obtain ⟨A,B,h1,h2⟩:=Jua m r (by simp only [Forest.len] at h;omega);exact ⟨.cons nm t A,B,by rw [Forest.app,← h1],by simp only [Forest.len,h2]⟩
theorem Qg {L:Nat}:∀ {v:List Node} {o k:Nat},nxt L v o=some k→∃ F:Forest,F.len=o∧v=F.enc ++ v.drop k∧F.enc.length=k
 | v,0,k,h=>by
  simp [nxt] at h;subst h;exact ⟨.nil,rfl,by simp [Bl],by simp [Bl]⟩
 | [],o+1,k,h=>by simp [nxt] at h
 | n :: r,o+1,k,h=>by
  simp only [nxt] at h;split at h
  ·cases h
  ·rename_i hn;obtain ⟨k',h',rfl⟩:=Option.map_eq_some_iff.1 h;obtain ⟨F,h1,h2,h3⟩:=Qg h';obtain ⟨A,B,rfl,hA⟩:=Jua n.many.toNat F omg;rw [Jq0] at h1;rw [Jql] at h2 h3;refine ⟨.cons n.name (.mk n.kind n.s n.neg n.e A) B,by simp only [Forest.len];omega,?_,?_⟩
   ·rw [A0,A6,List.drop_succ_cons];have e:(⟨n.kind,A.len,n.name,n.s,n.neg,n.e⟩:Node)=n:=by
     have:(A.len:Int)=n.many:=by omega
     rw [this]
    rw [e];simp only [List.cons_append,List.append_assoc];congr 1;rw [← List.append_assoc];exact h2
   ·rw [A0,A6,List.length_append,List.length_cons];rw [List.length_append] at h3;omega
theorem Q3 {L:Nat}:∀ (n:Nat) (F:Forest) (r:List Node),F.enc.length≤n→F.enc.length≤L→nxt L (F.enc ++ r) F.len=some F.enc.length
 | _,.nil,r,_,_=>by simp [Forest.len,nxt,Bl]
 | 0,.cons nm t rest,r,h,_=>by
  have:=Et t nm;rw [A0,List.length_append] at h;omega
 | n+1,.cons nm (.mk k s g e kids) rest,r,h,hL=>by
  rw [A0,A6,List.length_append,List.length_cons] at h hL;have hk:=Jqz kids;have ih:=Q3 (L:=L) n (kids.app rest) r (by rw [Jql,List.length_append];omega) (by rw [Jql,List.length_append];omega);rw [Jql,Jq0,List.append_assoc,List.length_append] at ih;simp only [A0,A6,List.cons_append,List.append_assoc,Forest.len,nxt];rw [if_neg omg];simp only [Int.toNat_natCast];rw [Nat.add_comm rest.len,ih];simp only [Option.map_some,List.length_cons,List.length_append]
theorem Jcx {v:List Node}:nxt v.length v 1=some v.length ↔ ∃ nm t,v=Tree.enc nm t:=by
 constructor
 ·intro h;obtain ⟨F,h1,h2,h3⟩:=Qg h;rw [List.drop_length,List.append_nil] at h2
  match F,h1,h2 with
  | .cons nm t .nil,_,h2=>exact ⟨nm,t,by rw [h2,A0,Bl,List.append_nil]⟩
 ·rintro ⟨nm,t,rfl⟩;have:=Q3 (L:=(t.enc nm).length) (t.enc nm).length (.cons nm t .nil) [] (by rw [A0,Bl];simp) (by rw [A0,Bl];simp);simpa [A0,Bl,Forest.len] using this
def R0 (v:List Node):Prop:=∃ t,okT t∧v=t.enc []
open Classical in
noncomputable def Jw (v:List Node):Bool:=decide (R0 v)
theorem Iq {v:List Node}:Jw v=true ↔ R0 v:=by unfold Jw;exact @decide_eq_true_iff _ (Classical.propDecidable _)
end Go.LX
namespace Go.LX
open Go Go.RowKit Go.Proofs
attribute [local irreducible] Al SWP Bi
def nd (k:Int) (l:List KT):Tree:=.mk k [] false 0 (A1 l)
theorem Ea (l:List KT):(A1 l).list=l:=Hd l
theorem Jdh {k:Int} {l:List KT}:okT (nd k l) ↔ G3 k [] false 0 l.length∧Eh k l∧∀ p∈l,okT p.2:=by
 unfold nd;rw [Lu,Jdo,Ea,Ca]
def Ck (name:List UInt8) (t:Tree) (l:List KT):List KT:=l.map fun p=>if p.1=name then (name,t) else p
theorem Jhx (name:List UInt8) (t:Tree) (l:List KT):(Ck name t l).map (·.1)=l.map (·.1):=by
 unfold Ck;rw [List.map_map];apply List.map_congr_left;intro p _;simp only [Function.comp];split <;> simp_all
theorem Jkq {l m:List KT} (h:l.map (·.1)=m.map (·.1)):Rise l ↔ Rise m:=by
 have e:∀ l:List KT,Rise l ↔ (l.map (·.1)).Pairwise fun a b=>Op.bytesLess a b=true:=fun l=>by unfold Rise;rw [List.pairwise_map]
 rw [e,e,h]
theorem Ii {name:List UInt8} {t:Tree} {l:List KT} (h:Rise l):Rise (Ck name t l):=(Jkq (Jhx name t l)).2 h
theorem Mh {name:List UInt8} {t:Tree}:∀ {l:List KT},(∀ p∈l,p.1≠name)→Ck name t l=l
 | [],_=>rfl
 | p :: l,h=>by
  have:=Mh (t:=t) fun q hq=>h q (List.mem_cons_of_mem p hq)
  unfold Ck at this ⊢;rw [List.map_cons,if_neg (h p List.mem_cons_self),this]
theorem Y2 {name:List UInt8}:∀ {l:List KT},(∀ p∈l,p.1≠name)→A8 name l=l
 | [],_=>rfl
 | p :: l,h=>by rw [A8,if_neg (h p List.mem_cons_self),Y2 fun q hq=>h q (List.mem_cons_of_mem p hq)]
theorem Zx {name:List UInt8} {y:Tree}:∀ {l:List KT},Rise l→(∃ p∈l,p.1=name)→putL name y (A8 name l)=Ck name y l
 | [],_,h=>by obtain ⟨p,hp,_⟩:=h;cases hp
 | p :: l,hr,h=>by
  obtain ⟨h1,h2⟩:=List.pairwise_cons.1 hr;by_cases hp:p.1=name
  ·have hno:∀ q∈l,q.1≠name:=fun q hq e=>by
    have:=h1 q hq;rw [hp,e,E0] at this;cases this
   rw [A8,if_pos hp,Y2 hno];unfold Ck;rw [List.map_cons,if_pos hp];have:=Mh (t:=y) hno;unfold Ck at this;rw [this];cases l with
   | nil=>rfl
   | cons q l =>
    have:=h1 q List.mem_cons_self;rw [hp] at this;rw [putL,if_neg (by rw [L3 this];simp)]
  ·obtain ⟨q,hq,hqn⟩:=h;have hq':q∈l:=by
    rcases List.mem_cons.1 hq with rfl | hq
    ·exact absurd hqn hp
    ·exact hq
   have hlt:=h1 q hq';rw [hqn] at hlt;rw [A8,if_neg hp,putL,if_pos hlt,Zx h2 ⟨q,hq',hqn⟩];unfold Ck;rw [List.map_cons,if_neg hp]
theorem Lf {name:List UInt8} {y:Tree}:∀ {l:List KT},(∃ p∈l,p.1=name)→Ch name (Ck name y l)=some y
 | [],h=>by obtain ⟨p,hp,_⟩:=h;cases hp
 | p :: l,h=>by
  unfold Ck;rw [List.map_cons];by_cases hp:p.1=name
  ·rw [if_pos hp,Ch,if_pos rfl]
  ·rw [if_neg hp,Ch,if_neg hp];obtain ⟨q,hq,hqn⟩:=h;refine Lf ⟨q,?_,hqn⟩;rcases List.mem_cons.1 hq with rfl | hq
   ·exact absurd hqn hp
   ·exact hq
theorem G8 {name n':List UInt8} {y:Tree} (hn:n'≠name):∀ {l:List KT},Ch n' (Ck name y l)=Ch n' l
 | []=>rfl
 | p :: l=>by
  have ih:=G8 hn (y:=y) (l:=l);unfold Ck at ih ⊢;rw [List.map_cons];by_cases hp:p.1=name
  ·rw [if_pos hp,Ch,if_neg (by simp only;exact fun e=>hn e.symm),Ch,if_neg (by rw [hp];exact fun e=>hn e.symm),ih]
  ·rw [if_neg hp,Ch,Ch,ih]
theorem Xa (name:List UInt8) (y z:Tree) (l:List KT):Ck name z (Ck name y l)=Ck name z l:=by
 unfold Ck;rw [List.map_map];apply List.map_congr_left;intro p _;simp only [Function.comp];by_cases h:p.1=name <;> simp [h]
theorem Jbr {a b:List UInt8} (h:a≠b) (y z:Tree) (l:List KT):Ck a y (Ck b z l)=Ck b z (Ck a y l):=by
 unfold Ck;rw [List.map_map,List.map_map];apply List.map_congr_left;intro p _;simp only [Function.comp];by_cases h1:p.1=a
 ·have h2:¬ p.1=b:=fun e=>h (h1.symm.trans e)
  simp [h1,h,h2]
 ·by_cases h2:p.1=b
  ·simp [h2,Ne.symm h]
  ·simp [h1,h2]
def putT:Tree→Step→Tree→Tree
 | .mk _ _ _ _ kids,x,y=>if x.part=true then nd 5 (unn (kids.list.set x.n.toNat ([],y))) else nd 6 (putL x.name y (A8 x.name kids.list))
inductive Way (t:Tree) (x:Step) (w:Tree):Prop
 | list (l:List KT) (h:t=nd 5 l) (hp:x.part=true) (hn:∀ p∈l,p.1=[]) (hi:l[x.n.toNat]? = some ([],w))
 | obj (l:List KT) (h:t=nd 6 l) (hp:x.part=false) (hr:Rise l) (hi:Ch x.name l=some w)
theorem Jl3:∀ {l:List KT},(∀ p∈l,p.1=[])→unn l=l
 | [],_=>rfl
 | p :: l,h=>by
  have:=Jl3 fun q hq=>h q (List.mem_cons_of_mem p hq)
  unfold unn at this ⊢;rw [List.map_cons,this,← h p List.mem_cons_self]
theorem Jv {t:Tree} {x:Step} {w:Tree} (ht:okT t) (h:inT t x=.ok w):Way t x w:=by
 cases t with
 | mk k s g e kids =>
 rw [Lu] at ht;obtain ⟨h1,h2,h3⟩:=ht;unfold G3 at h1;cases hp:x.part
 ·by_cases hk:k=6
  ·subst hk;simp at h1;obtain ⟨rfl,rfl,rfl⟩:=h1;rw [Tp hp] at h;cases hf:Ch x.name kids.list with
   | none=>rw [hf] at h;cases h
   | some u =>
    rw [hf] at h;cases h;exact .obj kids.list (by unfold nd;rw [G1]) hp (h2.2.2 rfl) hf
  ·rw [Iw hp hk] at h;cases h
 ·by_cases hk:k=5
  ·subst hk;simp at h1;obtain ⟨rfl,rfl,rfl⟩:=h1;rw [Tm hp] at h;cases hf:kids.list[x.n.toNat]? with
   | none=>rw [hf] at h;cases h
   | some q =>
    rw [hf] at h;cases h;have hq:=h2.1 rfl q (List.mem_of_getElem? hf);refine .list kids.list (by unfold nd;rw [G1]) hp (h2.1 rfl) ?_;rw [hf];obtain ⟨a,b⟩:=q;simp only at hq;subst hq;rfl
  ·rw [Iz hp hk] at h;cases h
theorem Va {l:List KT} {x:Step} (hp:x.part=true):inT (nd 5 l) x=match l[x.n.toNat]? with
   | some p=>.ok p.2
   | none=>.error 6:=by unfold nd;rw [Tm hp,Ea] <;> rfl
theorem Vv {l:List KT} {x:Step} (hp:x.part=false):inT (nd 6 l) x=match Ch x.name l with
   | some t=>.ok t
   | none=>.error 6:=by unfold nd;rw [Tp hp,Ea] <;> rfl
theorem Gf {l:List KT} {i:Nat} {y:Tree} (h:∀ p∈l,p.1=[]):∀ p∈l.set i ([],y),p.1=[]:=by
 intro p hp;rcases List.mem_or_eq_of_mem_set hp with hp | rfl
 ·exact h p hp
 ·rfl
theorem Cr {l:List KT} {x:Step} {y:Tree} (hp:x.part=true) (hn:∀ p∈l,p.1=[]):putT (nd 5 l) x y=nd 5 (l.set x.n.toNat ([],y)):=by
 show (if x.part=true then nd 5 (unn ((A1 l).list.set x.n.toNat ([],y))) else _)=_;rw [if_pos hp,Ea,Jl3 (Gf hn)]
theorem C7 {l:List KT} {x:Step} {y w:Tree} (hp:x.part=false) (hr:Rise l) (hi:Ch x.name l=some w):putT (nd 6 l) x y=nd 6 (Ck x.name y l):=by
 show (if x.part=true then _ else nd 6 (putL x.name y (A8 x.name (A1 l).list)))=_;rw [if_neg (by simp [hp]),Ea,Zx hr];obtain ⟨p,h1,_,h2⟩:=H2 hi;exact ⟨p,h1,h2⟩
theorem Qq {name:List UInt8} {l:List KT} {w:Tree} (h:Ch name l=some w):∃ p∈l,p.1=name:=by
 obtain ⟨p,h1,_,h2⟩:=H2 h;exact ⟨p,h1,h2⟩
theorem L7 {t:Tree} {x:Step} {w y:Tree} (h:Way t x w):inT (putT t x y) x=.ok y:=by
 cases h with
 | list l h hp hn hi =>
  subst h;rw [Cr hp hn,Va hp,List.getElem?_set_self (List.getElem?_eq_some_iff.1 hi).1]
 | obj l h hp hr hi =>
  subst h;rw [C7 hp hr hi,Vv hp,Lf (Qq hi)]
theorem Np {t:Tree} {x x':Step} {w y:Tree} (h:Way t x w) (hx:Bc x) (hx':Bc x') (hne:x≠x'):inT (putT t x y) x'=inT t x':=by
 unfold Bc at hx hx';cases h with
 | list l h hp hn hi =>
  subst h;rw [if_pos hp] at hx;rw [Cr hp hn];cases hp':x'.part
  ·unfold nd;rw [Iw hp' de,Iw hp' de]
  ·rw [if_pos hp'] at hx';have hnn:x.n.toNat≠x'.n.toNat:=fun e=>hne (by
    cases x;cases x';simp_all;omega)
   rw [Va hp',Va hp',List.getElem?_set_ne hnn]
 | obj l h hp hr hi =>
  subst h;rw [if_neg (by simp [hp])] at hx;rw [C7 hp hr hi];cases hp':x'.part
  ·rw [if_neg (by simp [hp'])] at hx';have hnn:x'.name≠x.name:=fun e=>hne (by
    cases x;cases x';simp_all)
   rw [Vv hp',Vv hp',G8 hnn]
  ·unfold nd;rw [Iz hp' de,Iz hp' de]
theorem Ot {t:Tree} {x:Step} {w y z:Tree} (h:Way t x w):putT (putT t x y) x z=putT t x z:=by
 cases h with
 | list l h hp hn hi =>
  subst h;rw [Cr hp hn,Cr hp (Gf hn),Cr hp hn,List.set_set]
 | obj l h hp hr hi =>
  subst h;rw [C7 hp hr hi,C7 hp (Ii hr) (Lf (Qq hi)),C7 hp hr hi,Xa]
theorem J4b {t:Tree} {x x':Step} {w w' y y':Tree} (h:Way t x w) (h':Way t x' w') (hx:Bc x) (hx':Bc x') (hne:x≠x'):putT (putT t x y) x' y'=putT (putT t x' y') x y:=by
 unfold Bc at hx hx';cases h with
 | list l h hp hn hi =>
  subst h;cases h' with
  | list l' h' hp' hn' hi' =>
   rw [if_pos hp] at hx;rw [if_pos hp'] at hx';have hnn:x.n.toNat≠x'.n.toNat:=fun e=>hne (by
    cases x;cases x';simp_all;omega)
   rw [Cr hp hn,Cr hp' (Gf hn),Cr hp' hn,Cr hp (Gf hn),List.set_comm _ _ hnn]
  | obj l' h' hp' hr' hi'=>unfold nd at h';cases h'
 | obj l h hp hr hi =>
  subst h;cases h' with
  | list l' h' hp' hn' hi'=>unfold nd at h';cases h'
  | obj l' h' hp' hr' hi' =>
   have e:l=l':=by
    unfold nd at h';injection h' with _ _ _ _ h5
    have:=congrArg Forest.list h5;rw [Ea,Ea] at this;exact this
   subst e;rw [if_neg (by simp [hp])] at hx;rw [if_neg (by simp [hp'])] at hx';have hnn:x'.name≠x.name:=fun e=>hne (by
    cases x;cases x';simp_all)
   rw [C7 hp hr hi,C7 hp' (Ii hr) (by rw [G8 hnn];exact hi'),C7 hp' hr hi',C7 hp (Ii hr) (by rw [G8 (Ne.symm hnn)];exact hi),Jbr hnn]
theorem Ig {t:Tree} {x:Step} {w:Tree} (ht:okT t) (h:Way t x w):okT w:=by
 cases h with
 | list l h hp hn hi=>subst h;exact (Jdh.1 ht).2.2 _ (List.mem_of_getElem? hi)
 | obj l h hp hr hi =>
  subst h;obtain ⟨p,h1,h2,_⟩:=H2 hi;rw [← h2];exact (Jdh.1 ht).2.2 p h1
def setT:List Step→Tree→Tree→Except Nat Tree
 | [],_,u=>.ok u
 | x :: p,t,u=>match inT t x with
  | .error e=>.error e
  | .ok w=>match setT p w u with
   | .error e=>.error e
   | .ok y=>.ok (putT t x y)
theorem set_comm:∀ {p q:List Step} {t u v a b:Tree},okT t→okT u→okT v→(∀ x∈p,Bc x)→(∀ x∈q,Bc x)→B7 p q=true→setT p t u=.ok a→setT q t v=.ok b→∃ c,setT q a v=.ok c∧setT p b u=.ok c
 | [],q,_,_,_,_,_,_,_,_,_,_,h,_,_=>by cases q <;> simp [B7] at h
 | x :: p,[],_,_,_,_,_,_,_,_,_,_,h,_,_=>by simp [B7] at h
 | x :: p,x' :: q,t,u,v,a,b,ht,hu,hv,hp,hq,h,h1,h2=>by
  rw [setT] at h1 h2;cases hi:inT t x with
  | error e=>rw [hi] at h1;cases h1
  | ok w =>
  cases hi':inT t x' with
  | error e=>rw [hi'] at h2;cases h2
  | ok w' =>
  rw [hi] at h1;rw [hi'] at h2;simp only at h1 h2;cases hz:setT p w u with
  | error e=>rw [hz] at h1;cases h1
  | ok a1 =>
  cases hz':setT q w' v with
  | error e=>rw [hz'] at h2;cases h2
  | ok b1 =>
  rw [hz] at h1;rw [hz'] at h2;simp only at h1 h2;cases h1;cases h2;have hw:=Jv ht hi;have hw':=Jv ht hi';by_cases hxx:x=x'
  ·subst hxx;rw [hi] at hi';cases hi';have hse:F8 x x:=Dc.2 rfl;rw [B7] at h;simp only [hse,decide_true,Bool.not_true,Bool.false_or] at h;obtain ⟨c,c1,c2⟩:=set_comm (Ig ht hw) hu hv (fun a ha=>hp a (List.mem_cons_of_mem _ ha)) (fun a ha=>hq a (List.mem_cons_of_mem _ ha)) h hz hz';refine ⟨putT t x c,?_,?_⟩
   ·rw [setT,L7 hw];simp only;rw [c1];simp only;rw [Ot hw]
   ·rw [setT,L7 hw];simp only;rw [c2];simp only;rw [Ot hw]
  ·have hx:=hp x List.mem_cons_self;have hx':=hq x' List.mem_cons_self;refine ⟨putT (putT t x a1) x' b1,?_,?_⟩
   ·rw [setT,Np hw hx hx' hxx,hi'];simp only;rw [hz']
   ·rw [setT,Np hw' hx' hx (Ne.symm hxx),hi];simp only;rw [hz];simp only;rw [J4b hw hw' hx hx' hxx]
end Go.LX
