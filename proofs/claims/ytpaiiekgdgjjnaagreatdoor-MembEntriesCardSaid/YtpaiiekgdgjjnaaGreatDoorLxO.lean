/- Of the library, on strings. -/
import Derived.Test.YtpaiiekgdgjjnaaGreatDoorLxN
import Derived.Lib.TrimU
import Derived.Test.YtpaiiekgdgjjnaaGreatDoorLxJ
set_option linter.unusedSimpArgs false
set_option linter.unusedVariables false
set_option linter.unusedSectionVars false
set_option linter.unnecessarySimpa false
set_option maxRecDepth 100000
set_option maxHeartbeats 2000000
namespace Go.LX
open Go Go.RowKit Go.Proofs
attribute [local irreducible] Al SWP Bi
theorem S6 (fn s:List UInt8) (b c:Int) (hs:s.length≤1000000):Det cx 263 [.p (.str fn),.p (.str s),.p (.int .i64 b),.p (.int .i64 c),.p (.ifi 261 .i64 2)] [] (.p .ifc) []:=by
 refine Jsz (enters_of Tryz.func263 krf rfl) fun β Im w vs hg hf=>?_
 have hl:vs.length=5:=by simpa using hf.size
 match vs,hl with
 | [v1,v2,v3,v4,v5],_ =>
  have e1:=Ks (hf.tmps 0 _ rfl);have e2:=Ks (hf.tmps 1 _ rfl);have e3:=Mz (hf.tmps 2 _ rfl);have e4:=Mz (hf.tmps 3 _ rfl);have e5:=Jn2 (hf.tmps 4 _ rfl);simp [Array.getD] at e1 e2 e3 e4 e5;subst e1 e2 e3 e4 e5;obtain ⟨te,pe,he⟩:=(Jbj hg).syn;exact (Tryz.strconv_toError_syntax ⟨⟨fn⟩⟩ ⟨⟨s⟩⟩ b c _ w (Nat.le_trans hs de) he (.inr ⟨te,pe,rfl⟩)).mono fun e w' ⟨N,he,_,_,hb⟩=>⟨⟨_,he,fun _ _ _=>.ifc _ _⟩,hb⟩
def Vk (o:Option Nat):L:=match o with
 | some n=>.tup [.int .u64 n,.nifc]
 | none=>.tup [.int .u64 0,.ifc]
theorem Zn (s:List UInt8) (hs:s.length=4):Det cx 323 [.p (.str s),.p (.int .i64 16),.p (.int .i64 16)] [] (Vk (hexN s 0)) []:=by
 cases h:hexN s 0 with
 | some n =>
  have hc:=Kf s hs;rw [h] at hc;simp only [Jbb] at hc;(refine bgo Tryz.func323 ?_;simp only [go_sem,simprocAttr]);(repeat' (first | ((refine Jqa (hc) ?_);simp only [go_sem,simprocAttr]) | fail));rfl
 | none =>
  have hc:=Kf s hs;rw [h] at hc;simp only [Jbb] at hc;(refine bgo Tryz.func323 ?_;simp only [go_sem,simprocAttr]);(repeat' (first | ((first | (refine Jqa (hc) ?_)|(refine Jqa (S6 _ s _ _ omg) ?_));simp only [go_sem,simprocAttr]) | fail));rfl
theorem Fu (s:List UInt8) (c:Int):Det cx 215 [.p (.str s),.p (.int .u8 c)] [] (.p (.int .i64 (Lib.indexByte s c.toNat.toUInt8))) []:=by
 refine Jrl (v:=.int .i64 (Lib.indexByte s c.toNat.toUInt8)) (enters_of Tryz.func215 krf rfl) rfl (fun _ _ _=>.int _ _) fun β Im w vs hg hf=>?_
 obtain ⟨v,u,rfl,hv,hu⟩:=fit2 hf;have:=Ks hv;subst this;have:=Mz hu;subst this;exact (Tryz.strings_IndexByte ⟨⟨s⟩⟩ c w).mono fun e w' ⟨he,hw⟩=>⟨he,hw ▸ Below.refl _ _⟩
def K3 (s:List UInt8):Nat×Nat:=if s.length=0 then (65533,0) else dec s 0
theorem C4 (s:List UInt8):Det cx 253 [.p (.str s)] [] (.tup [.int .i32 (K3 s).1,.int .i64 (K3 s).2]) []:=by
 refine Jrl (v:=.tuple #[.int .i32 (K3 s).1,.int .i64 (K3 s).2]) (enters_of Tryz.func253 krf rfl) rfl (fun β w Im=>⟨[.int .i32 (K3 s).1,.int .i64 (K3 s).2],rfl,rfl,fun i x p hi hp=>?_⟩) fun β Im w vs hg hf=>?_
 ·rcases i with _ | _ | i <;> simp at hi hp
  ·subst hi hp;exact .int _ _
  ·subst hi hp;exact .int _ _
 ·obtain ⟨v,rfl,hv⟩:=fit1 hf;have:=Ks hv;subst this;exact (Tryz.utf8_DecodeRuneInString ⟨⟨s⟩⟩ w (Jbj hg).tabs).mono fun e w' ⟨he,hb⟩=>⟨he,hb⟩
theorem Jh (s p:List UInt8) (hs:s.length≤1000000) (hp:p.length≤1000000):Det cx 214 [.p (.str s),.p (.str p)] [] (.p (.bool (s.take p.length == p))) []:=by
 (refine bgo Tryz.func214 ?_;simp only [go_sem,simprocAttr]);(repeat' (apply iteI <;> intro h))
 ·exact h
 ·symm;rw [beq_eq_false_iff_ne];intro e;have:=congrArg List.length e;simp at this;omega
theorem Bj (s p:List UInt8) (hs:s.length≤1000000) (hp:p.length≤1000000):Det cx 148 [.p (.str s),.p (.str p)] [] (.p (.bool (s.take p.length == p))) []:=by
 (refine bgo Tryz.func148 ?_;simp only [go_sem,simprocAttr]);(repeat' (first | ((refine Jqa (Jh s p hs hp) ?_);simp only [go_sem,simprocAttr]) | fail))
theorem R8 (r:Int):(Utf8.encode r).data.toList=utf r:=by
 have ho:∀ n:Nat,u8of (n:Int)=UInt8.ofNat n:=fun n=>by
  unfold u8of;apply UInt8.toNat_inj.1;simp;omega
 unfold Utf8.encode;simp only [Utf8.valid,Bool.or_eq_true,Bool.and_eq_true,decide_eq_true_eq,Utf8.runeError];by_cases hv:(0≤r∧r<55296)∨(57344≤r∧r≤1114111)
 ·obtain ⟨n,rfl⟩:=Int.eq_ofNat_of_zero_le (a:=r) omg;rw [if_pos hv];simp only [Int.toNat_natCast];by_cases c1:n<128
  ·rw [if_pos c1,utf,Nb omg];simp [ho]
  by_cases c2:n<2048
  ·rw [if_neg c1,if_pos c2,utf,Oc omg];simp only [List.map_cons,List.map_nil];rw [show (192:Int)+(n:Int) / 64=((192+n / 64:Nat):Int) by omega,show (128:Int)+(n:Int) % 64=((128+n % 64:Nat):Int) by omega,ho,ho]
  by_cases c3:n<65536
  ·rw [if_neg c1,if_neg c2,if_pos c3,utf,Nd omg];simp only [List.map_cons,List.map_nil];rw [show (224:Int)+(n:Int) / 4096=((224+n / 4096:Nat):Int) by omega,show (128:Int)+(n:Int) / 64 % 64=((128+n / 64 % 64:Nat):Int) by omega,show (128:Int)+(n:Int) % 64=((128+n % 64:Nat):Int) by omega,ho,ho,ho]
  ·rw [if_neg c1,if_neg c2,if_neg c3,utf,Nk omg];simp only [List.map_cons,List.map_nil];rw [show (240:Int)+(n:Int) / 262144=((240+n / 262144:Nat):Int) by omega,show (128:Int)+(n:Int) / 4096 % 64=((128+n / 4096 % 64:Nat):Int) by omega,show (128:Int)+(n:Int) / 64 % 64=((128+n / 64 % 64:Nat):Int) by omega,show (128:Int)+(n:Int) % 64=((128+n % 64:Nat):Int) by omega,ho,ho,ho,ho]
 ·rw [if_neg hv,utf,Wq omg];rfl
def Eg:List UInt8:=[43,45,95]
theorem Jhu (k:Nat):at_ Eg k≤95:=by
 match k with
 | 0=>decide
 | 1=>decide
 | 2=>decide
 | k+3=>rw [at_out (by simp [Eg])];decide
theorem Jko {r:Int} (h:128≤r):2≤(utf r).length∧128≤at_ (utf r) ((utf r).length - 1):=by
 have key:∀ l:List Int,utfC r=l→(∀ c∈l,128≤c∧c<256)→l≠[]→128≤at_ (utf r) ((utf r).length - 1):=by
  intro l e hl hne;rw [utf,e];have hlen:(l.map u8of).length - 1<l.length:=by
   have:=List.length_pos_iff.2 hne;simp;omega
  rw [Ql (by simpa using hlen)];simp only [List.getElem_map];have:=hl _ (List.getElem_mem hlen);have:=B8 (c:=l[(l.map u8of).length - 1]) omg omg;omega
 unfold utf at *
 by_cases c2:r<2048
 ·have e:=Oc (r:=r) omg;refine ⟨by rw [e];simp,key _ e ?_ sm⟩;simp;omega
 by_cases c3:(2048≤r∧r<55296)∨(57343<r∧r<65536)
 ·have e:=Nd (r:=r) omg;refine ⟨by rw [e];simp,key _ e ?_ sm⟩;simp;omega
 by_cases c4:65536≤r∧r≤1114111
 ·have e:=Nk (r:=r) omg;refine ⟨by rw [e];simp,key _ e ?_ sm⟩;simp;omega
 ·have e:=Wq (r:=r) omg;refine ⟨by rw [e];simp,key _ e ?_ sm⟩;simp
theorem indexByte_none {l:List UInt8} {c:Int} (h0:128≤c) (h1:c<256) (h:∀ x∈l,x.toNat<128):Lib.indexByte l c.toNat.toUInt8 = -1:=by
 have hc:l.contains c.toNat.toUInt8=false:=by
  rw [List.contains_eq_mem,decide_eq_false_iff_not];intro hm;have:=h _ hm;simp at this;omega
 have e:=Lib.contains_iff_indexByte l c.toNat.toUInt8;rw [hc] at e;have hlt:¬ 0≤Lib.indexByte l c.toNat.toUInt8:=by simpa using e.symm
 have:=Lib.indexByte_ge l c.toNat.toUInt8;omega
def irv (r:Int):Int:=if r<128 then Lib.indexByte Eg r.toNat.toUInt8 else -1
theorem Ha (r:Int) (h:Cy r):Det cx 358 [.p (.int .i32 r)] [] (.p (.bool true)) []:=by
 unfold Cy at h;(refine bgo Tryz.func358 ?_;simp only [go_sem,simprocAttr]);(repeat' (first | (apply iteI <;> intro h)|(exact True.intro)|(exfalso;omega)))
theorem Ey:Eg.length=3:=rfl
theorem pd0:Utf8.decode ⟨⟨Eg⟩⟩ 0=(43,1):=by decide
theorem pd1:Utf8.decode ⟨⟨Eg⟩⟩ 1=(45,1):=by decide
theorem pd2:Utf8.decode ⟨⟨Eg⟩⟩ 2=(95,1):=by decide
theorem Ps (r:Int) (hr:Cy r) (h1:128≤r) (h2:r≠65533):Det cx 342 [.p (.str Eg),.p (.int .i32 r)] [] (.p (.int .i64 (-1))) []:=by
 have h':=hr;unfold Cy at h';obtain ⟨g1,g2⟩:=Jko (r:=r) h1;have g3:=Fr (utf r) ((utf r).length - 1);have g4:=Od r;have g5:=Jhu ((utf r).length - 1);obtain ⟨k,hk⟩:∃ k,(utf r).length=k+1:=⟨(utf r).length - 1,by omega⟩
 rw [hk,Nat.add_sub_cancel] at g2 g3 g5;have hw:IntKind.i64.wrap (((k+1:Nat):Int) - 1)=(k:Int):=by rw [Aa omg omg];omega
 have hw2:IntKind.i64.wrap ((k:Int)+1)=((k+1:Nat):Int):=by rw [Aa omg omg];omega
 have hib:Lib.indexByte (Eg.drop (k+1)) (at_ (utf r) k:Int).toNat.toUInt8 = -1:=indexByte_none omg omg fun x hx=>by
  exact (by decide:∀ x∈Eg,x.toNat<128) x (List.mem_of_mem_drop hx)
 (refine bgo Tryz.func342 ?_;simp only [go_sem,simprocAttr]);(repeat' (first | (apply iteI <;> intro h)|((refine Jqa (Ha r hr) ?_);simp only [go_sem,simprocAttr,R8,hk,hw])|(exfalso;omega)));(refine SWP.rounds 2 ?_;refine Jse hm ?_;simp only [go_sem,simprocAttr,Ey]);(repeat' (first | (apply iteI <;> intro h)|(refine Jqe ?_)|((first | (refine Jqk ?_)|(refine Jqd (Fu _ _) ?_));simp only [go_sem,simprocAttr,Ey,hk,hw2])|(exact True.intro)|(exfalso;omega)))
 ·simp only [Int.toNat_natCast] at hib;omega
theorem Oy (r:Int) (hr:Cy r):Det cx 342 [.p (.str Eg),.p (.int .i32 r)] [] (.p (.int .i64 (irv r))) []:=by
 have h':=hr;unfold Cy at h';by_cases hb:128≤r∧r≠65533
 ·rw [show irv r = -1 by simp only [irv,if_neg (show ¬ r<128 by omega)]];exact Ps r hr hb.1 hb.2
 (refine bgo Tryz.func342 ?_;simp only [go_sem,simprocAttr]);(repeat' (first | (apply iteI <;> intro h)|((first | (refine Jqa (Ha r hr) ?_)|(refine Jqa (Fu _ _) ?_));simp only [go_sem,simprocAttr])|(exfalso;omega)))
 ·rw [Ab omg omg];simp only [irv,if_pos (show r<128 by omega)]
 ·(refine SWP.rounds 4 ?_;refine Jse hm ?_;simp only [go_sem,simprocAttr,pd0,Ey]);(repeat' (first | (refine Jse hm ?_;simp only [go_sem,simprocAttr,pd1,pd2,Ey]) | fail));simp only [irv,if_neg (show ¬ r<128 by omega)]
 all_goals (exfalso;omega)
def iaF (s:List UInt8):Nat→Nat→Int
 | 0,_=>-1
 | f+1,i=>if i<s.length then (if 0≤irv (dec s i).1 then (i:Int) else iaF s f (i+(dec s i).2)) else -1
theorem Jcz (n:Int) (hn:n≤8):Det cx 363 [.p (.int .i64 n)] [] (.p (.bool false)) []:=by
 (refine bgo Tryz.func363 ?_;simp only [go_sem,simprocAttr]);exact hn
theorem Sf (s:List UInt8) (i:Nat):Cy (dec s i).1:=by
 rw [F1];split
 ·right;decide
 ·rename_i h;exact Fm h
theorem Jm6 (s:List UInt8) (i:Nat):1≤(dec s i).2:=by
 rw [F1];split
 ·decide
 ·simp only;omega
theorem H6 (s:List UInt8) (i:Nat):Utf8.decode ⟨⟨s⟩⟩ i=dec s i:=rfl
theorem Ro (s:List UInt8) (hs:s.length=4):Det cx 349 [.p (.str s),.p (.str Eg)] [] (.p (.int .i64 (iaF s 5 0))) []:=by
 (refine bgo Tryz.func349 ?_;simp only [go_sem,simprocAttr,Ey]);(repeat' (first | ((refine Jqa (Jcz _ omg) ?_);simp only [go_sem,simprocAttr]) | fail));refine SWP.loop (fun x:Nat×Nat=>⟨Ba 55 [(0,.p (.str s)),(1,.p (.str Eg)),(45,.ptr 45 0 0)],[(45,.obj (.sit s x.1))]⟩) (fun x=>5≤x.1+x.2∧iaF s x.2 x.1=iaF s 5 0) (fun x=>4 - x.1) (0,5) Jqb ⟨by omega,rfl⟩ ?_;rintro ⟨i,f⟩ ⟨h1,h2⟩;simp only at h1 h2;have hp:=Jm6 s i;(refine lws ?_;simp only [go_sem,simprocAttr,H6]);(repeat' (first | (apply iteI <;> intro h)|((refine Jqa (Oy _ (Sf s i)) ?_);simp only [go_sem,simprocAttr]) | fail))
 ·obtain ⟨g,rfl⟩:∃ g,f=g+1:=⟨f - 1,by omega⟩
  rw [← h2,iaF,if_pos omg,if_pos (by assumption)]
 ·obtain ⟨g,rfl⟩:∃ g,f=g+1:=⟨f - 1,by omega⟩
  refine ⟨(i+(dec s i).2,g),⟨by simp only;omega,?_⟩,by simp only;omega,Jqb⟩;simp only;rw [← h2,show iaF s (g+1) i=iaF s g (i+(dec s i).2) from by rw [iaF,if_pos omg,if_neg (by assumption)]]
 ·rw [← h2];cases f with
  | zero=>rfl
  | succ g=>rw [iaF,if_neg omg]
theorem Sq (s:List UInt8) (hs:s.length=4):Det cx 322 [.p (.str s),.p (.str Eg)] [] (.p (.bool (decide (0≤iaF s 5 0)))) []:=by
 (refine bgo Tryz.func322 ?_;simp only [go_sem,simprocAttr]);(repeat' (first | ((refine Jqa (Ro s hs) ?_);simp only [go_sem,simprocAttr]) | fail))
theorem Jih {r:Int} (h0:0≤r) (h:0≤irv r):r=43∨r=45∨r=95:=by
 unfold irv at h;split at h
 ·have e:=Lib.contains_iff_indexByte Eg r.toNat.toUInt8;rw [decide_eq_true h,List.contains_eq_mem,decide_eq_true_eq] at e;simp only [Eg,List.mem_cons,List.not_mem_nil,or_false] at e;rcases e with e | e | e
  ·have:=congrArg UInt8.toNat e;simp at this;omega
  ·have:=congrArg UInt8.toNat e;simp at this;omega
  ·have:=congrArg UInt8.toNat e;simp at this;omega
 ·omega
theorem Jhs {s:List UInt8} {i:Nat} (h:(dec s i).1<128):at_ s i=(dec s i).1:=by
 have h0:=Fr s i;rw [F1] at h ⊢;split at h
 ·simp at h
 ·rename_i hr;rw [if_neg hr];simp only at h ⊢;rcases Fd s i with e | ⟨e,g1⟩ | ⟨e,g1,g2,g3⟩ | ⟨e,g1,g2,g3,g4,g5,g6⟩ | ⟨e,g1,g2,g3,g4,g5,g6,g7⟩
  ·exact absurd e hr
  ·unfold code;rw [if_pos g1]
  ·have ec:code s i=at_ s i % 32 * 64+at_ s (i+1) % 64:=by unfold code;rw [if_neg omg,if_pos omg]
   omega
  ·have ec:code s i=at_ s i % 16 * 4096+at_ s (i+1) % 64 * 64+at_ s (i+2) % 64:=by unfold code;rw [if_neg omg,if_neg omg,if_pos omg]
   omega
  ·have ec:code s i=at_ s i % 8 * 262144+at_ s (i+1) % 64 * 4096+at_ s (i+2) % 64 * 64+at_ s (i+3) % 64:=by unfold code;rw [if_neg omg,if_neg omg,if_neg omg]
   omega
theorem Y5 (s:List UInt8):∀ (f i:Nat),0≤iaF s f i→∃ k,k<s.length∧hexv (at_ s k)=none
 | 0,i,h=>by simp [iaF] at h
 | f+1,i,h=>by
  simp only [iaF] at h;split at h
  ·rename_i hi;split at h
   ·rename_i hm;have h1:=Jih omg hm;have h2:=Jhs (s:=s) (i:=i) omg;refine ⟨i,hi,?_⟩;unfold hexv;rw [if_neg omg,if_neg omg,if_neg omg]
   ·exact Y5 s f _ h
  ·omega
theorem S4:∀ (s:List UInt8) (a k:Nat),k<s.length→hexv (at_ s k)=none→hexN s a=none
 | [],a,k,h,_=>by simp at h
 | c :: s,a,0,h,hn=>by
  simp only [hexN];rw [show hexv c.toNat=none from hn]
 | c :: s,a,k+1,h,hn=>by
  simp only [hexN];split
  ·exact S4 s _ k (by simpa using h) hn
  ·rfl
theorem We:∀ (s:List UInt8) (a n:Nat),hexN s a=some n→n<(a+1) * 16 ^ s.length
 | [],a,n,h=>by simp [hexN] at h;subst h;simp
 | c :: s,a,n,h=>by
  simp only [hexN] at h;split at h
  ·rename_i d hd;have hd':d<16:=by
    unfold hexv at hd;split at hd
    ·cases hd;omega
    split at hd
    ·cases hd;omega
    split at hd
    ·cases hd;omega
    ·cases hd
   have:=We s _ n h;refine Nat.lt_of_lt_of_le this ?_;simp only [List.length_cons,Nat.pow_succ];rw [Nat.mul_comm (16 ^ s.length) 16,← Nat.mul_assoc];exact Nat.mul_le_mul_right _ omg
  ·cases h
end Go.LX
namespace Go.LX
open Go
def H9 (K:PV→Prop):Prop:=∀ a b,K a→K b→∃ t,Lc a b=some t∧(t=true ↔ a=b)
def Z5 (q:IntKind) (k:PV):Prop:=∃ n,k=.int q n
theorem P1 (q:IntKind):H9 (Z5 q):=by
 rintro a b ⟨x,rfl⟩ ⟨y,rfl⟩;exact ⟨x == y,by simp [Lc],by simp⟩
structure MapF (K:PV→Prop) (es:List (PV×PV)):Prop where
 keys:∀ p∈es,K p.1
 nodup:(es.map (·.1)).Nodup
theorem MapF.nil {K:PV→Prop}:MapF K []:=⟨fun p h=>by simp at h,by simp⟩
variable {K:PV→Prop} {es:List (PV×PV)}
theorem MapF.tail {p:PV×PV} (h:MapF K (p :: es)):MapF K es:=⟨fun q hq=>h.keys q (List.mem_cons_of_mem _ hq),(List.nodup_cons.1 h.nodup).2⟩
theorem MapF.one (h:MapF K es) {k v w:PV} (h1:(k,v)∈es) (h2:(k,w)∈es):v=w:=by
 induction es with
 | nil=>simp at h1
 | cons p es ih =>
  have hn:=List.nodup_cons.1 h.nodup;have key:∀ {u:PV},(k,u)∈es→p.1≠k:=fun {u} hu e=>hn.1 (by show p.1∈_;rw [e];exact List.mem_map_of_mem (f:=(·.1)) hu)
  rcases List.mem_cons.1 h1 with h1 | h1
  ·rcases List.mem_cons.1 h2 with h2 | h2
   ·rw [← h1] at h2;exact (Prod.mk.inj h2).2.symm
   ·exact absurd (by rw [← h1]) (key h2)
  ·rcases List.mem_cons.1 h2 with h2 | h2
   ·exact absurd (by rw [← h2]) (key h1)
   ·exact ih h.tail h1 h2
theorem Gk (hK:H9 K) {k:PV} (hk:K k):∀ (es:List (PV×PV)) (i:Nat),MapF K es →
  (Cl k es i=some none∧∀ v,(k,v) ∉ es)∨∃ j v,Cl k es i=some (some (i+j,v))∧es[j]? = some (k,v)
 | [],i,_=>.inl ⟨rfl,fun v h=>by simp at h⟩
 | (x,u) :: es,i,h=>by
  obtain ⟨t,h1,h2⟩:=hK k x hk (h.keys (x,u) List.mem_cons_self);cases t with
  | true =>
   have e:k=x:=h2.1 rfl;subst e;exact .inr ⟨0,u,by simp [Cl,h1],rfl⟩
  | false =>
   have hne:k≠x:=fun e=>by have:=h2.2 e;cases this
   rcases Gk hK hk es (i+1) h.tail with ⟨g1,g2⟩ | ⟨j,v,g1,g2⟩
   ·refine .inl ⟨by simp [Cl,h1,g1],fun v hv=>?_⟩;rcases List.mem_cons.1 hv with hv | hv
    ·exact hne (Prod.mk.inj hv).1
    ·exact g2 v hv
   ·exact .inr ⟨j+1,v,by simp [Cl,h1,g1];omega,by simpa using g2⟩
theorem Jkm (hK:H9 K) {k v:PV} (h:MapF K es) (hv:(k,v)∈es):∃ j,Cl k es 0=some (some (j,v)):=by
 have hk:=h.keys _ hv;rcases Gk hK hk es 0 h with ⟨_,g⟩ | ⟨j,u,g1,g2⟩
 ·exact absurd hv (g v)
 ·have:=h.one hv (List.mem_of_getElem? g2);subst this;exact ⟨0+j,g1⟩
theorem Jep (hK:H9 K) {k:PV} (hk:K k) (h:MapF K es) (hv:∀ v,(k,v) ∉ es):Cl k es 0=some none:=by
 rcases Gk hK hk es 0 h with ⟨g,_⟩ | ⟨j,u,g1,g2⟩
 ·exact g
 ·exact absurd (List.mem_of_getElem? g2) (hv u)
theorem Jmm (h:MapF K es) {i j:Nat} {p q:PV×PV} (hi:es[i]? = some p) (hj:es[j]? = some q) (e:p.1=q.1):i=j:=by
 have h1:(es.map (·.1))[i]? = some p.1:=by simp [hi]
 have h2:(es.map (·.1))[j]? = some p.1:=by simp [hj,e]
 have hil:=(List.getElem?_eq_some_iff.1 h1).1;exact (List.getElem?_inj hil h.nodup).1 (h1.trans h2.symm)
theorem Jhy (hK:H9 K) {k v:PV} (hk:K k) (h:MapF K es) :
  ∃ es',mput k v es=some es'∧MapF K es'∧(∀ k' v',(k',v')∈es' ↔ (k'=k∧v'=v)∨(k'≠k∧(k',v')∈es)):=by
 rcases Gk hK hk es 0 h with ⟨g1,g2⟩ | ⟨j,u,g1,g2⟩
 ·refine ⟨es ++ [(k,v)],by simp [mput,g1],⟨fun p hp=>?_,?_⟩,fun k' v'=>?_⟩
  ·rcases List.mem_append.1 hp with hp | hp
   ·exact h.keys p hp
   ·simp at hp;subst hp;exact hk
  ·rw [List.map_append,List.nodup_append];refine ⟨h.nodup,by simp,fun a ha b hb=>?_⟩;simp at hb;subst hb;rintro rfl;obtain ⟨q,hq,rfl⟩:=List.mem_map.1 ha;exact g2 q.2 hq
  ·simp only [List.mem_append,List.mem_singleton,Prod.mk.injEq];constructor
   ·rintro (hm | hm)
    ·exact .inr ⟨fun e=>g2 v' (e ▸ hm),hm⟩
    ·exact .inl hm
   ·rintro (hm | hm)
    ·exact .inr hm
    ·exact .inl hm.2
 ·have hj:=(List.getElem?_eq_some_iff.1 g2).1;refine ⟨es.set j (k,v),by simp [mput,g1],⟨fun p hp=>?_,?_⟩,fun k' v'=>?_⟩
  ·rcases List.mem_or_eq_of_mem_set hp with hp | rfl
   ·exact h.keys p hp
   ·exact hk
  ·have e:(es.set j (k,v)).map (·.1)=es.map (·.1):=by
    rw [List.map_set];apply List.ext_getElem?;intro i;rw [List.getElem?_set];split
    ·rename_i hij;subst hij;have:=(List.getElem?_eq_some_iff.1 g2).2;simp [hj,this]
    ·rfl
   rw [e];exact h.nodup
  ·constructor
   ·intro hm;obtain ⟨i,hi⟩:=List.getElem?_of_mem hm;rw [List.getElem?_set] at hi;split at hi
    ·first
      | (have e:=Option.some.inj hi;exact .inl ⟨(Prod.mk.inj e).1.symm,(Prod.mk.inj e).2.symm⟩)
      | (
       split at hi
       ·have e:=Option.some.inj hi;exact .inl ⟨(Prod.mk.inj e).1.symm,(Prod.mk.inj e).2.symm⟩
       ·cases hi)
    ·rename_i hij;refine .inr ⟨fun e=>hij ?_,List.mem_of_getElem? hi⟩;exact Jmm h g2 hi (by simp [e])
   ·rintro (⟨rfl,rfl⟩ | ⟨hne,hm⟩)
    ·exact List.mem_of_getElem? (i:=j) (by simp [hj])
    ·obtain ⟨i,hi⟩:=List.getElem?_of_mem hm;refine List.mem_of_getElem? (i:=i) ?_;rw [List.getElem?_set,if_neg (fun e=>?_)]
     ·exact hi
     ·subst e;rw [g2] at hi;exact hne (Prod.mk.inj (Option.some.inj hi)).1.symm
theorem Jer (hK:H9 K) {k:PV} (hk:K k) (h:MapF K es) :
  ∃ es',mdel k es=some es'∧MapF K es'∧(∀ k' v',(k',v')∈es' ↔ k'≠k∧(k',v')∈es):=by
 rcases Gk hK hk es 0 h with ⟨g1,g2⟩ | ⟨j,u,g1,g2⟩
 ·refine ⟨es,by simp [mdel,g1],h,fun k' v'=>⟨fun hm=>⟨fun e=>g2 v' (e ▸ hm),hm⟩,fun hm=>hm.2⟩⟩
 ·have hs:(es.eraseIdx j).Sublist es:=List.eraseIdx_sublist ..
  refine ⟨es.eraseIdx j,by simp [mdel,g1],⟨fun p hp=>h.keys p (hs.subset hp),?_⟩,fun k' v'=>⟨fun hm=>⟨fun e=>?_,hs.subset hm⟩,fun hm=>?_⟩⟩
  ·exact (hs.map _).nodup h.nodup
  ·obtain ⟨i,hij,hi⟩:=List.mem_eraseIdx_iff_getElem?.1 hm;exact hij (Jmm h hi g2 (by simp [e]))
  ·obtain ⟨i,hi⟩:=List.getElem?_of_mem hm.2;refine List.mem_eraseIdx_iff_getElem?.2 ⟨i,fun e=>?_,hi⟩;subst e;rw [g2] at hi;exact hm.1 (Prod.mk.inj (Option.some.inj hi)).1.symm
def Jo (seen:List Nat):Nat→Nat
 | 0=>0
 | n+1=>Jo seen n+(if n∈seen then 0 else 1)
theorem Ti (seen:List Nat) (i:Nat):∀ n,Jo (seen ++ [i]) n≤Jo seen n
 | 0=>Nat.le_refl _
 | n+1=>by
  have:=Ti seen i n;simp only [Jo,List.mem_append,List.mem_singleton];by_cases h1:n∈seen
  ·rw [if_pos (.inl h1),if_pos h1];omega
  ·rw [if_neg h1];split <;> omega
theorem S9 {seen:List Nat} {i:Nat} (hi:i ∉ seen):∀ {n},i<n→Jo (seen ++ [i]) n<Jo seen n
 | 0,h=>by omega
 | n+1,h=>by
  simp only [Jo,List.mem_append,List.mem_singleton];by_cases h2:n=i
  ·subst h2;have:=Ti seen n n;rw [if_pos (.inr rfl),if_neg hi];omega
  ·have:=S9 hi (n:=n) omg;by_cases h1:n∈seen
   ·rw [if_pos (.inl h1),if_pos h1];omega
   ·rw [if_neg (fun h=>h.elim h1 h2),if_neg h1];omega
end Go.LX
namespace Go.LX
open Go Go.RowKit Go.Proofs
attribute [local irreducible] Al SWP Bi
def Ei:List (PV×PV):=[(.int .u8 34,.int .i32 34),(.int .u8 92,.int .i32 92),(.int .u8 47,.int .i32 47),(.int .u8 98,.int .i32 8),(.int .u8 102,.int .i32 12),(.int .u8 110,.int .i32 10),(.int .u8 114,.int .i32 13),(.int .u8 116,.int .i32 9)]
theorem mp0:mput (.int .u8 34) (.int .i32 34) []=some [(.int .u8 34,.int .i32 34)]:=rfl
theorem mp1:mput (.int .u8 92) (.int .i32 92) [(.int .u8 34,.int .i32 34)]=some [(.int .u8 34,.int .i32 34),(.int .u8 92,.int .i32 92)]:=rfl
theorem mp2:mput (.int .u8 47) (.int .i32 47) [(.int .u8 34,.int .i32 34),(.int .u8 92,.int .i32 92)]=some [(.int .u8 34,.int .i32 34),(.int .u8 92,.int .i32 92),(.int .u8 47,.int .i32 47)]:=rfl
theorem mp3:mput (.int .u8 98) (.int .i32 8) [(.int .u8 34,.int .i32 34),(.int .u8 92,.int .i32 92),(.int .u8 47,.int .i32 47)]=some [(.int .u8 34,.int .i32 34),(.int .u8 92,.int .i32 92),(.int .u8 47,.int .i32 47),(.int .u8 98,.int .i32 8)]:=rfl
theorem mp4:mput (.int .u8 102) (.int .i32 12) [(.int .u8 34,.int .i32 34),(.int .u8 92,.int .i32 92),(.int .u8 47,.int .i32 47),(.int .u8 98,.int .i32 8)]=some [(.int .u8 34,.int .i32 34),(.int .u8 92,.int .i32 92),(.int .u8 47,.int .i32 47),(.int .u8 98,.int .i32 8),(.int .u8 102,.int .i32 12)]:=rfl
theorem mp5:mput (.int .u8 110) (.int .i32 10) [(.int .u8 34,.int .i32 34),(.int .u8 92,.int .i32 92),(.int .u8 47,.int .i32 47),(.int .u8 98,.int .i32 8),(.int .u8 102,.int .i32 12)]=some [(.int .u8 34,.int .i32 34),(.int .u8 92,.int .i32 92),(.int .u8 47,.int .i32 47),(.int .u8 98,.int .i32 8),(.int .u8 102,.int .i32 12),(.int .u8 110,.int .i32 10)]:=rfl
theorem mp6:mput (.int .u8 114) (.int .i32 13) [(.int .u8 34,.int .i32 34),(.int .u8 92,.int .i32 92),(.int .u8 47,.int .i32 47),(.int .u8 98,.int .i32 8),(.int .u8 102,.int .i32 12),(.int .u8 110,.int .i32 10)]=some [(.int .u8 34,.int .i32 34),(.int .u8 92,.int .i32 92),(.int .u8 47,.int .i32 47),(.int .u8 98,.int .i32 8),(.int .u8 102,.int .i32 12),(.int .u8 110,.int .i32 10),(.int .u8 114,.int .i32 13)]:=rfl
theorem mp7:mput (.int .u8 116) (.int .i32 9) [(.int .u8 34,.int .i32 34),(.int .u8 92,.int .i32 92),(.int .u8 47,.int .i32 47),(.int .u8 98,.int .i32 8),(.int .u8 102,.int .i32 12),(.int .u8 110,.int .i32 10),(.int .u8 114,.int .i32 13)]=some [(.int .u8 34,.int .i32 34),(.int .u8 92,.int .i32 92),(.int .u8 47,.int .i32 47),(.int .u8 98,.int .i32 8),(.int .u8 102,.int .i32 12),(.int .u8 110,.int .i32 10),(.int .u8 114,.int .i32 13),(.int .u8 116,.int .i32 9)]:=rfl
theorem Kl:Det cx 291 [] [] (.p (.mp Ei)) []:=by
 (refine bgo Tryz.func291 ?_;simp only [go_sem,simprocAttr,mp0,mp1,mp2,mp3,mp4,mp5,mp6,mp7]);rfl
theorem wi1 {i:Nat} (h:i≤3000000):IntKind.i64.wrap ((i:Int)+1)=((i+1:Nat):Int):=by rw [Aa omg omg];omega
theorem wi2 {i:Nat} (h:i≤3000000):IntKind.i64.wrap ((i:Int)+2)=((i+2:Nat):Int):=by rw [Aa omg omg];omega
theorem wi3 {i:Nat} (h:i≤3000000):IntKind.i64.wrap ((i:Int)+3)=((i+3:Nat):Int):=by rw [Aa omg omg];omega
theorem wi6 {i:Nat} (h:i≤3000000):IntKind.i64.wrap ((i:Int)+6)=((i+6:Nat):Int):=by rw [Aa omg omg];omega
theorem wia {i j:Nat} (h:i≤3000000) (h2:j≤3000000):IntKind.i64.wrap ((i:Int)+(j:Int))=((i+j:Nat):Int):=by rw [Aa omg omg];omega
theorem Jl7 (s:List UInt8) (i:Nat) (hs:s.length≤1000000) (hi:i≤2000000):Det cx 233 [.p (.str s),.p (.int .i64 i)] [] (.p (.bool (ct s i))) []:=by
 (refine bgo Tryz.func233 ?_;simp only [go_sem,simprocAttr]);(repeat' (first | (apply iteI <;> intro h)|(refine Jqe ?_) | fail))
 all_goals (rw [Bool.eq_iff_iff];simp [ct];omega)
theorem ct_lt {s:List UInt8} {k:Nat} (h:ct s k=true):k<s.length:=(J3.1 h).1
theorem Jkd (s:List UInt8) (i:Nat) (hs:s.length≤1000000) (hi:i<s.length):Det cx 181 [.p (.str s),.p (.int .i64 i)] [] (.p (.int .i64 (rlen s i))) []:=by
 have w1:=wi1 (i:=i) omg;have w2:=wi2 (i:=i) omg;have w3:=wi3 (i:=i) omg;have hA:=Fr s i;have hB:=Fr s (i+1);(refine bgo Tryz.func181 ?_;simp only [go_sem,simprocAttr,w1]);(repeat' (first | (apply iteI <;> intro h)|(refine Jqe ?_)|((refine Jqa (Jl7 s _ hs omg) ?_);simp only [go_sem,simprocAttr,w1,w2,w3])|(refine And.intro (ct_lt (by assumption)) ?_)|(exfalso;omega)))
 all_goals (clear w1 w2 w3;unfold rlen;simp only [J3] at *;(repeat' split) <;> omega)
def vF (s:List UInt8):Nat→Nat→Bool
 | 0,_=>true
 | f+1,i=>if i<s.length then (if rlen s i=0 then false else vF s f (i+rlen s i)) else true
def valid (s:List UInt8):Bool:=vF s (s.length+1) 0
theorem Cn (s:List UInt8) (hs:s.length≤1000000):Det cx 100 [.p (.str s)] [] (.p (.bool (valid s))) []:=by
 (refine bgo Tryz.func100 ?_;simp only [go_sem,simprocAttr]);refine SWP.loop (fun x:Nat×Nat=>⟨Ba 17 [(0,.p (.str s)),(3,.p (.int .i64 x.1))],[]⟩) (fun x=>x.1≤s.length∧s.length+1≤x.1+x.2∧vF s x.2 x.1=valid s) (fun x=>s.length - x.1) (0,s.length+1) Jqb ⟨by simp,by simp,rfl⟩ ?_;rintro ⟨i,f⟩ ⟨h1,h2,h3⟩;simp only at h1 h2 h3;obtain ⟨g,rfl⟩:∃ g,f=g+1:=⟨f - 1,by omega⟩
 have h4:=Qv s i;have hw:=wia (i:=i) (j:=rlen s i) omg omg;(refine lws ?_;simp only [go_sem,simprocAttr]);(repeat' (first | (apply iteI <;> intro h)|((refine Jqa (Jkd s i hs omg) ?_);simp only [go_sem,simprocAttr,hw]) | fail))
 ·rw [← h3,vF,if_pos omg,if_pos omg]
 ·have:=M4 s i omg;exact ⟨(i+rlen s i,g),⟨by simp only;omega,by simp only;omega,by simp only;rw [← h3,vF,if_pos omg,if_neg omg]⟩,by simp only;omega,Jqb⟩
 ·rw [← h3,vF,if_neg omg]
theorem d_hex (n:Nat) (h:n<16):Det cx 234 [.p (.int .i64 n)] [] (.p (.str [hexd n])) []:=by
 (refine bgo Tryz.func234 ?_;simp only [go_sem,simprocAttr,wi1 (i:=n) omg]);(repeat' (first | (refine Jqe ?_) | fail));have key:∀ m:Fin 16,List.take (m.val+1 - m.val) (List.drop m.val [48,49,50,51,52,53,54,55,56,57,97,98,99,100,101,102])=[hexd m.val]:=by decide
 exact key ⟨n,h⟩
def wr (c:Nat):List UInt8 :=
 if c=34 then [92,34] else if c=92 then [92,92] else if c=8 then [92,98] else if c=12 then [92,102] else if c=10 then [92,110] else if c=13 then [92,114] else if c=9 then [92,116]
 else if c<32 then [92,117,48,48,hexd (c / 16),hexd (c % 16)] else [UInt8.ofNat c]
theorem td16 {c:Nat} (h:c≤3000000):IntKind.i64.wrap ((c:Int).tdiv 16)=((c / 16:Nat):Int):=by
 rw [Int.tdiv_eq_ediv_of_nonneg omg,Aa omg omg];omega
theorem tm16 {c:Nat}:(c:Int).tmod 16=((c % 16:Nat):Int):=by
 rw [Int.tmod_eq_emod_of_nonneg omg];omega
theorem wi0 {c:Nat} (h:c≤3000000):IntKind.i64.wrap (c:Int)=(c:Int):=Aa omg omg
theorem J1u {c:Nat} (h:c≤255) {bs:List UInt8}:Rr (c:Int) (some bs)=some (UInt8.ofNat c :: bs):=by
 simp only [Rr];rw [if_pos omg];rfl
theorem J72 (c:Nat) (hc:c≤255):Det cx 182 [.p (.int .u8 c)] [] (.p (.str (wr c))) []:=by
 (refine bgo Tryz.func182 ?_;simp only [go_sem,simprocAttr,td16 (c:=c) omg,wi0 (c:=c) omg,J1u hc]);(repeat' (first | (apply iteI <;> intro h)|((first | (refine Jqa (d_hex (c / 16) omg) ?_)|(refine Jqa (d_hex (c % 16) omg) ?_));simp only [go_sem,simprocAttr,td16 (c:=c) omg,tm16,wi0 (c:=c) omg,J1u hc]) | fail))
 all_goals (unfold wr;(repeat' split) <;> first | rfl | (exfalso;omega))
theorem N0 (n:Int) (h0:-9223372036854775808≤n) (h1:n≤9223372036854775807):Det cx 174 [.p (.int .i64 n)] [] (.p (.str (Lib.itoa n))) []:=by
 refine Jrl (v:=.string ⟨⟨Lib.itoa n⟩⟩) (enters_of Tryz.func174 krf rfl) rfl (fun β w Im=>PRep.str _) fun β Im w vs hg hf=>?_
 obtain ⟨v,rfl,hv⟩:=fit1 hf;have:=Mz hv;subst this;refine (Tryz.strconv_Itoa n h0 h1 w (Jbj hg).pow).mono fun e w' ⟨h,k,os,hw⟩=>⟨h,?_⟩
 subst hw;exact ⟨rfl,rfl,rfl,by show w.heap.size≤(w.heap ++ os).size;rw [Array.size_append];omega,fun _ hj=>Sort.heap_grow_old (w.drewN k) os hj⟩
def Qh (s:List UInt8):L:=match Lib.atoiAll s with
 | .ok v=>.tup [.int .i64 v,.nifc]
 | .range=>.tup [.int .i64 (Lib.atoiSat s),.ifc]
 | _=>.tup [.int .i64 0,.ifc]
theorem tupP {β:Env} {w:World} {Im:Nat→Prop} {a b:Value} {x y:PV} (h1:PRep w Im a x) (h2:PRep w Im b y):LRep β w Im (.tuple #[a,b]) (.tup [x,y]) :=
 ⟨[
  a,b],rfl,rfl,fun i v p hi hp=>by
  match i,hi,hp with
  | 0,hi,hp=>simp at hi hp;subst hi;subst hp;exact h1
  | 1,hi,hp=>simp at hi hp;subst hi;subst hp;exact h2
  | i+2,hi,hp=>simp at hi⟩
theorem U9 (s:List UInt8) (hs:s.length≤1000000):Det cx 216 [.p (.str s)] [] (Qh s) []:=by
 refine Jsz (enters_of Tryz.func216 krf rfl) fun β Im w vs hg hf=>?_
 obtain ⟨v,rfl,h1⟩:=fit1 hf;cases Ks h1;unfold Qh;cases ha:Lib.atoiAll s with
 | ok n =>
  refine (Tryz.strconv_Atoi_ok ⟨⟨s⟩⟩ (by show s.length≤_;omega) n ha w).mono fun e w' ⟨h,hw⟩=>⟨⟨_,h,fun β w Im=>tupP (.int _ _) .nifc⟩,?_⟩
  rcases hw with rfl | ⟨u,rfl⟩
  ·exact Below.refl _ _
  ·exact Lib.bytesWorld_below _ _ _
 | range =>
  obtain ⟨te,pe,he⟩:=(Jbj hg).rng;exact (Tryz.strconv_Atoi_range ⟨⟨s⟩⟩ (Nat.le_trans hs de) ha _ w he (.inr ⟨te,pe,rfl⟩)).mono fun e w' ⟨N,h,_,_,hb⟩=>⟨⟨_,h,fun β w Im=>tupP (.int _ _) (.ifc _ _)⟩,hb⟩
 | _ =>
  obtain ⟨te,pe,he⟩:=(Jbj hg).syn;exact (Any.strconv_Atoi_syntax Jtq ⟨⟨s⟩⟩ (Nat.le_trans hs de) ha _ w he (.inr ⟨te,pe,rfl⟩)).mono fun e w' ⟨N,h,_,_,hb⟩=>⟨⟨_,h,fun β w Im=>tupP (.int _ _) (.ifc _ _)⟩,hb⟩
theorem R6 (s:List UInt8) (hs:s.length≤9223372036854775807):Det cx 220 [.p (.str s)] [] (.p (.bool (Lib.validD s))) []:=by
 refine Jrl (v:=.bool (Lib.validD s)) (enters_of Tryz.func220 krf rfl) rfl (fun _ _ _=>.bool _) fun β Im w vs hg hf=>?_
 obtain ⟨v,rfl,h1⟩:=fit1 hf;cases Ks h1;exact Any.utf8_ValidString J09 ⟨⟨s⟩⟩ w hs (Jbj hg).tabs
theorem Yj (s:List UInt8) (i:Nat):Lib.decodeL (s.drop i)=dec s i:=by
 show dec (s.drop i) 0=dec s i;rw [Qy,Nat.add_zero]
theorem Te:∀ (f:Nat) (s:List UInt8) (i:Nat),s.length<i+f→vF s f i=Lib.validD (s.drop i)
 | 0,s,i,h=>by rw [List.drop_eq_nil_of_le omg];rfl
 | f+1,s,i,h=>by
  rw [vF];by_cases hi:i<s.length
  ·rw [if_pos hi];have hne:s.drop i≠[]:=fun e=>by have:=congrArg List.length e;simp at this;omega
   rw [Lib.validD_step _ hne,Yj,F1];by_cases hr:rlen s i=0
   ·rw [if_pos hr,if_pos hr,if_pos ⟨rfl,rfl⟩]
   ·rw [if_neg hr,if_neg hr];have hc:¬ (code s i=65533∧rlen s i=1):=fun ⟨c1,c2⟩=>by
     rcases Fd s i with e | ⟨e,g⟩ | ⟨e,_⟩ | ⟨e,_⟩ | ⟨e,_⟩
     ·exact hr e
     ·have:code s i=at_ s i:=by unfold code;rw [if_pos g]
      omega
     ·omega
     ·omega
     ·omega
    rw [if_neg hc,List.drop_drop];exact Te f s _ omg
  ·rw [if_neg hi,List.drop_eq_nil_of_le omg];rfl
theorem Fi (s:List UInt8) (hs:s.length≤9223372036854775807):Det cx 220 [.p (.str s)] [] (.p (.bool (valid s))) []:=by
 have h:=R6 s hs;have e:Lib.validD s=valid s:=by unfold valid;rw [Te _ s 0 omg,List.drop_zero]
 rw [e] at h;exact h
def letP (c:Nat):Prop:=(97≤c∧c≤122)∨(65≤c∧c≤90)∨c=95
instance (c:Nat):Decidable (letP c):=inferInstanceAs (Decidable (_∨_))
def figP (c:Nat):Prop:=48≤c∧c≤57
instance (c:Nat):Decidable (figP c):=inferInstanceAs (Decidable (_∧_))
def wF (s:List UInt8):Nat→Nat→Nat
 | 0,i=>i
 | f+1,i=>if i<s.length∧(letP (at_ s i)∨(0<i∧figP (at_ s i))) then wF s f (i+1) else i
def Dm (s:List UInt8):Nat:=wF s (s.length+1) 0
def isWd (s:List UInt8):Prop:=s≠[]∧Dm s=s.length
instance (s:List UInt8):Decidable (isWd s):=inferInstanceAs (Decidable (_∧_))
theorem wF_le (s:List UInt8):∀ f i,i≤s.length→i≤wF s f i∧wF s f i≤s.length
 | 0,i,h=>⟨Nat.le_refl _,h⟩
 | f+1,i,h=>by
  rw [wF];split
  ·have:=wF_le s f (i+1) omg;omega
  ·exact ⟨Nat.le_refl _,h⟩
theorem P3 (s:List UInt8):Dm s≤s.length:=(wF_le s _ 0 (Nat.zero_le _)).2
theorem Rl (c:Nat):Det cx 251 [.p (.int .u8 c)] [] (.p (.bool (decide (letP c)))) []:=by
 (refine bgo Tryz.func251 ?_;simp only [go_sem,simprocAttr]);(repeat' (first | (apply iteI <;> intro h)|(exfalso;omega)))
 all_goals first | exact decide_eq_decide.2 (by unfold letP;omega) | exact (decide_eq_false (by unfold letP;omega)).symm | exact (decide_eq_true (by unfold letP;omega)).symm
theorem Rc (c:Nat):Det cx 252 [.p (.int .u8 c)] [] (.p (.bool (decide (figP c)))) []:=by
 (refine bgo Tryz.func252 ?_;simp only [go_sem,simprocAttr]);(repeat' (apply iteI <;> intro h))
 all_goals first | exact decide_eq_decide.2 (by unfold figP;omega) | exact (decide_eq_false (by unfold figP;omega)).symm | exact (decide_eq_true (by unfold figP;omega)).symm
theorem Nw (s:List UInt8) (hs:s.length≤1000000):Det cx 210 [.p (.str s)] [] (.p (.int .i64 (Dm s))) []:=by
 (refine bgo Tryz.func210 ?_;simp only [go_sem,simprocAttr]);refine SWP.loop (fun x:Nat×Nat=>⟨Ba 27 [(0,.p (.str s)),(3,.p (.int .i64 x.1))],[]⟩) (fun x=>x.1≤s.length∧s.length+1≤x.1+x.2∧wF s x.2 x.1=Dm s) (fun x=>s.length - x.1) (0,s.length+1) Jqb ⟨by simp,by simp,rfl⟩ ?_;rintro ⟨i,f⟩ ⟨h1,h2,h3⟩;simp only at h1 h2 h3;obtain ⟨g,rfl⟩:∃ g,f=g+1:=⟨f - 1,by omega⟩
 rw [wF] at h3;(refine lws ?_;simp only [go_sem,simprocAttr,wi1 (i:=i) omg]);(repeat' (first | (apply iteI <;> intro h)|(refine Jqe ?_)|((first | (refine Jqa (Rl _) ?_)|(refine Jqa (Rc _) ?_));simp only [go_sem,simprocAttr,wi1 (i:=i) omg]) | fail))
 all_goals first
  | exact ⟨(i+1,g),⟨by simp only;omega,by simp only;omega,by simp only;rw [← h3,if_pos ⟨by omega,.inl (by assumption)⟩]⟩,by simp only;omega,Jqb⟩
  | exact ⟨(i+1,g),⟨by simp only;omega,by simp only;omega,by simp only;rw [← h3,if_pos ⟨by omega,.inr ⟨by omega,by assumption⟩⟩]⟩,by simp only;omega,Jqb⟩
  | (rw [← h3,if_neg (fun hc=>by
    obtain ⟨c1,c2⟩:=hc;rcases c2 with c2 | ⟨c3,c2⟩
    ·first | (exfalso;omega) | contradiction
    ·first | (exfalso;omega) | contradiction)])
theorem Er (s:List UInt8) (hs:s.length≤1000000):Det cx 212 [.p (.str s)] [] (.p (.bool (decide (isWd s)))) []:=by
 (refine bgo Tryz.func212 ?_;simp only [go_sem,simprocAttr]);(repeat' (first | (apply iteI <;> intro h)|((refine Jqa (Nw s hs) ?_);simp only [go_sem,simprocAttr]) | fail))
 ·have hne:s≠[]:=fun e=>by subst e;simp at *
  rw [Bool.eq_iff_iff,beq_iff_eq,decide_eq_true_eq];exact ⟨fun h=>⟨hne,by omega⟩,fun h=>by have:=h.2;omega⟩
 ·exact (decide_eq_false (fun h=>h.1 (List.eq_nil_of_length_eq_zero omg))).symm
theorem Jud (s:List UInt8) (hs:s.length≤1000000):Det cx 102 [.p (.str s)] [] (.p (.bool (decide (isWd s)))) []:=by
 (refine bgo Tryz.func102 ?_;simp only [go_sem,simprocAttr]);refine SWP.loop (fun x:Nat×Nat=>⟨Ba 49 [(0,.p (.str s)),(3,.p (.int .i64 x.1))],[]⟩) (fun x=>x.1≤s.length∧s.length+1≤x.1+x.2∧wF s x.2 x.1=Dm s) (fun x=>s.length - x.1) (0,s.length+1) Jqb ⟨by simp,by simp,rfl⟩ ?_;rintro ⟨i,f⟩ ⟨h1,h2,h3⟩;simp only at h1 h2 h3;obtain ⟨g,rfl⟩:∃ g,f=g+1:=⟨f - 1,by omega⟩
 rw [wF] at h3;(refine lws ?_;simp only [go_sem,simprocAttr,wi1 (i:=i) omg]);(repeat' (first | (apply iteI <;> intro h)|(refine Jqe ?_)|(exfalso;omega)))
 all_goals first
  | exact ⟨(i+1,g),⟨by simp only;omega,by simp only;omega,by simp only;rw [← h3,if_pos ⟨by omega,by unfold letP figP;omega⟩]⟩,by simp only;omega,Jqb⟩
  | (
   have hc:¬ (i<s.length∧(letP (at_ s i)∨(0<i∧figP (at_ s i)))):=by unfold letP figP;omega
   rw [if_neg hc] at h3;exact (decide_eq_false (fun hw=>by have:=hw.2;omega)).symm)
  | skip
 have hc:¬ (i<s.length∧(letP (at_ s i)∨(0<i∧figP (at_ s i)))):=fun h=>by have:=h.1;omega
 rw [if_neg hc] at h3;have hwl:Dm s=s.length:=by omega
 cases s with
 | nil=>simp [isWd]
 | cons c t =>
  have:isWd (c :: t):=⟨by simp,hwl⟩
  simp [this]
structure Step where
 part:Bool
 name:List UInt8
 n:Int
def Step.cells (x:Step):List PV:=[.bool x.part,.str x.name,.int .i64 x.n]
def Bb (p:List Step):List (List PV):=p.map Step.cells
@[simp] theorem Aq (p:List Step):(Bb p).length=p.length:=by simp [Bb]
theorem Dk {p:List Step} {i:Nat} {x:Step} (h:p[i]? = some x):(Bb p)[i]? = some [.bool x.part,.str x.name,.int .i64 x.n]:=by
 simp [Bb,h,Step.cells]
def Bc (x:Step):Prop:=if x.part=true then x.name=[]∧0≤x.n∧x.n≤1000000 else x.n=0∧valid x.name=true
instance (x:Step):Decidable (Bc x):=by unfold Bc;exact inferInstance
def E9 (p:List Step):Prop:=p.length≤20∧∀ x∈p,Bc x
instance (p:List Step):Decidable (E9 p):=inferInstanceAs (Decidable (_∧_))
def wrs (s:List UInt8):List UInt8:=s.flatMap fun c=>wr c.toNat
def refQ (s:List UInt8):List UInt8:=34 :: wrs s ++ [34]
theorem wr_le (c:Nat):(wr c).length≤6:=by
 unfold wr
 repeat' split
 all_goals simp
theorem Jlg (s:List UInt8):(wrs s).length≤6 * s.length:=by
 induction s with
 | nil=>simp [wrs]
 | cons c s ih =>
  have:=wr_le c.toNat;simp only [wrs,List.flatMap_cons,List.length_append,List.length_cons] at ih ⊢;omega
theorem Kbf {s:List UInt8} {i:Nat} (h:i<s.length):wrs (s.take (i+1))=wrs (s.take i) ++ wr (at_ s i):=by
 have e:s.take (i+1)=s.take i ++ [s[i]]:=by rw [List.take_add_one,List.getElem?_eq_getElem h];rfl
 rw [e];simp only [wrs,List.flatMap_append,List.flatMap_cons,List.flatMap_nil,List.append_nil,Ql h]
@[simp] theorem wrs_nil:wrs []=[]:=rfl
theorem J0n (s:List UInt8) (hs:s.length≤1000000):Det cx 103 [.p (.str s)] [] (.p (.str (refQ s))) []:=by
 (refine bgo Tryz.func103 ?_;simp only [go_sem,simprocAttr]);refine SWP.loop (fun i:Nat=>⟨Ba 19 [(0,.p (.str s)),(3,.p (.str (34 :: wrs (s.take i)))),(4,.p (.int .i64 i))],[]⟩) (fun i=>i≤s.length) (fun i=>s.length - i) 0 Jqb (Nat.zero_le _) ?_;rintro i h1;have hw:=Jlg (s.take i);have hl:(s.take i).length≤s.length:=List.length_take_le' ..
 have hr:=wr_le (at_ s i);(refine lws ?_;simp only [go_sem,simprocAttr,wi1 (i:=i) omg]);(repeat' (first | (apply iteI <;> intro h)|(refine Jqe ?_)|((refine Jqa (J72 _ (Fr s i)) ?_);simp only [go_sem,simprocAttr,wi1 (i:=i) omg]) | fail))
 ·refine ⟨i+1,by omega,by omega,?_⟩;rw [Kbf omg];exact Jqb
 ·rw [List.take_of_length_le omg];rfl
def u4 (s:List UInt8):Int:=if 6≤s.length∧at_ s 0=92∧at_ s 1=117 then (match hexN ((s.drop 2).take 4) 0 with | some n=>(n:Int) | none=>-1) else -1
theorem u4_drop (s:List UInt8) (i:Nat):u4 (s.drop i)=if i+6≤s.length∧at_ s i=92∧at_ s (i+1)=117 then (match hexN ((s.drop (i+2)).take 4) 0 with | some n=>(n:Int) | none=>-1) else -1:=by
 have e:(6≤(s.drop i).length∧at_ (s.drop i) 0=92∧at_ (s.drop i) 1=117)=(i+6≤s.length∧at_ s i=92∧at_ s (i+1)=117):=by
  simp only [List.length_drop,Ko,Nat.add_zero];apply propext;omega
 unfold u4;simp only [e,List.drop_drop,Nat.add_comm 2 i]
theorem d_unit (s:List UInt8) (i:Nat) (hs:s.length≤1000000) (hi:i≤2000000):Det cx 364 [.p (.str s),.p (.int .i64 i)] [] (.p (.int .i64 (u4 (s.drop i)))) []:=by
 have hA:=Fr s i;have hB:=Fr s (i+1);(refine bgo Tryz.func364 ?_;simp only [go_sem,simprocAttr,wi1 (i:=i) omg,wi2 (i:=i) omg,wi6 (i:=i) omg]);rw [u4_drop];(repeat' (first | (apply iteI <;> intro h)|(refine Jqe ?_) | fail))
 ·rw [if_neg omg]
 ·rw [if_neg omg]
 ·rw [if_neg omg]
 rw [if_pos omg];have hT:((s.drop (i+2)).take 4).length=4:=by simp;omega
 have hTa:∀ j,j<4→at_ ((s.drop (i+2)).take 4) j=at_ s (i+2+j):=fun j hj=>by
  rw [← Ko];simp [at_,List.getD_eq_getElem?_getD,List.getElem?_take,hj]
 generalize (s.drop (i+2)).take 4=T at *
 refine SWP.loop (fun x:Nat×Nat=>⟨Ba 77 [(0,.p (.str s)),(1,.p (.int .i64 i)),(5,.p (.int .i64 x.2)),(6,.p (.int .i64 (i+2+x.1:Nat)))],[]⟩) (fun x=>x.1≤4∧x.2<16 ^ x.1∧hexN (T.drop x.1) x.2=hexN T 0) (fun x=>4 - x.1) (0,0) Jqb ⟨by omega,by decide,rfl⟩ ?_;rintro ⟨j,n⟩ ⟨h1,h2,h3⟩;simp only at h1 h2 h3;have hP:j<4→n<4096:=fun h=>Nat.lt_of_lt_of_le h2 (Nat.le_trans (Nat.pow_le_pow_right de (show j≤3 by omega)) de)
 have hS:j<4→∀ d<16,n * 16+d<16 ^ (j+1):=fun h d hd=>by rw [Nat.pow_succ];omega
 have hC:=Fr s (i+2+j);(refine lws ?_;simp only [go_sem,simprocAttr,wi1 (i:=i) omg,wi2 (i:=i) omg,wi6 (i:=i) omg,wi0 (c:=at_ s (i+2+j)) omg,wi1 (i:=i+2+j) omg]);(repeat' (first | (apply iteI <;> intro h)|(refine Jqe ?_)|(exfalso;omega)))
 all_goals first
  | (
   have hd:48≤at_ s (i+2+j)∧at_ s (i+2+j)≤57:=by omega
   have hv:hexv (at_ T j)=some (at_ s (i+2+j) - 48):=by rw [hTa j omg];unfold hexv;rw [if_pos omg]
   have hn:=hP omg;refine ⟨(j+1,n * 16+(at_ s (i+2+j) - 48)),⟨by simp only;omega,hS omg _ omg,?_⟩,by simp only;omega,Jqb⟩;simp only;rw [← h3,Nn (i:=j) (n:=n) omg,hv])
  | (
   have hd:97≤at_ s (i+2+j)∧at_ s (i+2+j)≤102:=by omega
   have hv:hexv (at_ T j)=some (at_ s (i+2+j) - 87):=by rw [hTa j omg];unfold hexv;rw [if_neg omg,if_pos omg]
   have hn:=hP omg;refine ⟨(j+1,n * 16+(at_ s (i+2+j) - 87)),⟨by simp only;omega,hS omg _ omg,?_⟩,by simp only;omega,Jqb⟩;simp only;rw [← h3,Nn (i:=j) (n:=n) omg,hv])
  | (
   have hd:65≤at_ s (i+2+j)∧at_ s (i+2+j)≤70:=by omega
   have hv:hexv (at_ T j)=some (at_ s (i+2+j) - 55):=by rw [hTa j omg];unfold hexv;rw [if_neg omg,if_neg omg,if_pos omg]
   have hn:=hP omg;refine ⟨(j+1,n * 16+(at_ s (i+2+j) - 55)),⟨by simp only;omega,hS omg _ omg,?_⟩,by simp only;omega,Jqb⟩;simp only;rw [← h3,Nn (i:=j) (n:=n) omg,hv])
  | (
   have e:hexN T 0=none:=by
    rw [← h3,Nn (i:=j) (n:=n) omg,hTa j omg,show hexv (at_ s (i+2+j))=none by unfold hexv;rw [if_neg omg,if_neg omg,if_neg omg]]
   rw [e])
  | (
   have e:hexN T 0=some n:=by
    rw [← h3,List.drop_eq_nil_of_le omg];rfl
   rw [e])
def Hr (c:Nat):Option Nat :=
 if c=34 then some 34 else if c=92 then some 92 else if c=47 then some 47 else if c=98 then some 8 else if c=102 then some 12 else if c=110 then some 10 else if c=114 then some 13 else if c=116 then some 9 else none
def escR (s:List UInt8):Int×Nat :=
 if s.length<2 then (0,0) else match Hr (at_ s 1) with
  | some r=>(r,2)
  | none=>if u4 s<0∨(56320≤u4 s∧u4 s<57344) then (0,0) else if u4 s<55296∨57344≤u4 s then (u4 s,6)
   else if u4 (s.drop 6)<56320∨57344≤u4 (s.drop 6) then (0,0) else (65536+(u4 s - 55296) * 1024+(u4 (s.drop 6) - 56320),12)
def escS (s:List UInt8):List UInt8×Nat:=if (escR s).2=0 then ([],0) else (utf (escR s).1,(escR s).2)
theorem Jee (s:List UInt8):-1≤u4 s∧u4 s<65536:=by
 unfold u4;split
 ·split
  ·rename_i n h;have:=We _ _ _ h;have hl:((s.drop 2).take 4).length=4:=by simp;omega
   rw [hl] at this;omega
  ·omega
 ·omega
theorem d_utf (n:Int) (h:Cy n):Det cx 365 [.p (.int .i64 n)] [] (.p (.str (utf n))) []:=by
 have h':=h;unfold Cy at h';(refine bgo Tryz.func365 ?_;simp only [go_sem,simprocAttr]);(repeat' (apply iteI <;> intro h))
 ·rw [utf,Nb omg];rfl
 ·rw [utf,Oc omg];simp (disch:=omega) only [Int.tdiv_eq_ediv_of_nonneg,Int.tmod_eq_emod_of_nonneg,Aa,List.map_cons,List.map_nil]
 ·rw [utf,Nd omg];simp (disch:=omega) only [Int.tdiv_eq_ediv_of_nonneg,Int.tmod_eq_emod_of_nonneg,Aa,List.map_cons,List.map_nil]
 ·rw [utf,Nk omg];simp (disch:=omega) only [Int.tdiv_eq_ediv_of_nonneg,Int.tmod_eq_emod_of_nonneg,Aa,List.map_cons,List.map_nil]
theorem fl0:at_ [34,92,47,98,102,110,114,116] 0=34:=rfl
theorem fl1:at_ [34,92,47,98,102,110,114,116] 1=92:=rfl
theorem fl2:at_ [34,92,47,98,102,110,114,116] 2=47:=rfl
theorem fl3:at_ [34,92,47,98,102,110,114,116] 3=98:=rfl
theorem fl4:at_ [34,92,47,98,102,110,114,116] 4=102:=rfl
theorem fl5:at_ [34,92,47,98,102,110,114,116] 5=110:=rfl
theorem fl6:at_ [34,92,47,98,102,110,114,116] 6=114:=rfl
theorem fl7:at_ [34,92,47,98,102,110,114,116] 7=116:=rfl
theorem wk1:IntKind.i64.wrap 1=1:=by decide
theorem wk2:IntKind.i64.wrap 2=2:=by decide
theorem wk3:IntKind.i64.wrap 3=3:=by decide
theorem wk4:IntKind.i64.wrap 4=4:=by decide
theorem wk5:IntKind.i64.wrap 5=5:=by decide
theorem wk6:IntKind.i64.wrap 6=6:=by decide
theorem wk7:IntKind.i64.wrap 7=7:=by decide
theorem wk8:IntKind.i64.wrap 8=8:=by decide
theorem J5s {s:List UInt8} {i:Nat} (h:s.length≤i+1):escR (s.drop i)=(0,0):=by
 unfold escR;rw [if_pos (by rw [List.length_drop];omega)]
theorem Jss {s:List UInt8} {i r:Nat} (h:i+1<s.length) (hr:Hr (at_ s (i+1))=some r):escR (s.drop i)=((r:Int),2):=by
 unfold escR;rw [if_neg (by rw [List.length_drop];omega),Ko,hr]
theorem J8t {s:List UInt8} {i:Nat} (h:i+1<s.length) (hr:Hr (at_ s (i+1))=none):escR (s.drop i) =
  if u4 (s.drop i)<0∨(56320≤u4 (s.drop i)∧u4 (s.drop i)<57344) then (0,0) else if u4 (s.drop i)<55296∨57344≤u4 (s.drop i) then (u4 (s.drop i),6)
   else if u4 (s.drop (i+6))<56320∨57344≤u4 (s.drop (i+6)) then (0,0) else (65536+(u4 (s.drop i) - 55296) * 1024+(u4 (s.drop (i+6)) - 56320),12):=by
 unfold escR;rw [if_neg (by rw [List.length_drop];omega),Ko,hr];simp only [List.drop_drop]
theorem Jxx {s:List UInt8} (h:escR s=(0,0)):escS s=([],0):=by
 unfold escS;rw [h];rfl
theorem Ud {s:List UInt8} {r:Int} {n:Nat} (h:escR s=(r,n)) (hn:n≠0):escS s=(utf r,n):=by
 unfold escS;rw [h];simp [hn]
theorem J4u (s:List UInt8) (i:Nat) (hs:s.length≤1000000) (hi:i<s.length):Det cx 352 [.p (.str s),.p (.int .i64 i)] [] (.tup [.str (escS (s.drop i)).1,.int .i64 (escS (s.drop i)).2]) []:=by
 have hB:=Fr s (i+1);obtain ⟨hu1,hu2⟩:=Jee (s.drop i);obtain ⟨hv1,hv2⟩:=Jee (s.drop (i+6));have z1:=Aa (n:=u4 (s.drop i) - 55296) omg omg;have z2:=Aa (n:=1024 * (u4 (s.drop i) - 55296)) omg omg;have z3:=Aa (n:=65536+1024 * (u4 (s.drop i) - 55296)) omg omg;have z4:=Aa (n:=65536+1024 * (u4 (s.drop i) - 55296)+u4 (s.drop (i+6))) omg omg;have z5:=Aa (n:=65536+1024 * (u4 (s.drop i) - 55296)+u4 (s.drop (i+6)) - 56320) omg omg;(refine bgo Tryz.func352 ?_;simp only [go_sem,simprocAttr,wi1 (i:=i) omg,wi6 (i:=i) omg]);(repeat' (apply iteI <;> intro h))
 ·rw [Jxx (J5s omg)];exact ⟨rfl,rfl⟩
 (refine SWP.rounds 9 ?_;refine Jse hm ?_;simp only [go_sem,simprocAttr,wi1 (i:=i) omg,wi6 (i:=i) omg]);(repeat' (first | (apply iteI <;> intro h)|(refine Jqe ?_)|((first | (refine Jqk ?_)|(refine Jqa (d_unit s _ hs omg) ?_)|(refine Jqa (d_utf _ (by unfold Cy;omega)) ?_));simp only [go_sem,simprocAttr,wi1 (i:=i) omg,wi6 (i:=i) omg,fl0,fl1,fl2,fl3,fl4,fl5,fl6,fl7,wk1,wk2,wk3,wk4,wk5,wk6,wk7,wk8,z1,z2,z3,z4,z5])|(refine Jse hm ?_;simp only [go_sem,simprocAttr,wi1 (i:=i) omg,wi6 (i:=i) omg])|(exfalso;omega)))
 ·rw [Ud (Jss (r:=34) omg (by unfold Hr;(repeat (first | rw [if_pos omg] | rw [if_neg omg])))) de];exact ⟨rfl,rfl⟩
 ·rw [Ud (Jss (r:=92) omg (by unfold Hr;(repeat (first | rw [if_pos omg] | rw [if_neg omg])))) de];exact ⟨rfl,rfl⟩
 ·rw [Ud (Jss (r:=47) omg (by unfold Hr;(repeat (first | rw [if_pos omg] | rw [if_neg omg])))) de];exact ⟨rfl,rfl⟩
 ·rw [Ud (Jss (r:=8) omg (by unfold Hr;(repeat (first | rw [if_pos omg] | rw [if_neg omg])))) de];exact ⟨rfl,rfl⟩
 ·rw [Ud (Jss (r:=12) omg (by unfold Hr;(repeat (first | rw [if_pos omg] | rw [if_neg omg])))) de];exact ⟨rfl,rfl⟩
 ·rw [Ud (Jss (r:=10) omg (by unfold Hr;(repeat (first | rw [if_pos omg] | rw [if_neg omg])))) de];exact ⟨rfl,rfl⟩
 ·rw [Ud (Jss (r:=13) omg (by unfold Hr;(repeat (first | rw [if_pos omg] | rw [if_neg omg])))) de];exact ⟨rfl,rfl⟩
 ·rw [Ud (Jss (r:=9) omg (by unfold Hr;(repeat (first | rw [if_pos omg] | rw [if_neg omg])))) de];exact ⟨rfl,rfl⟩
 all_goals have hsr:Hr (at_ s (i+1))=none:=by unfold Hr;(repeat (first | rw [if_pos omg] | rw [if_neg omg]))
 all_goals have hn:=J8t (s:=s) (i:=i) omg hsr
 all_goals first
  | (rw [if_pos omg] at hn;rw [Jxx hn];exact ⟨rfl,rfl⟩)
  | (rw [if_neg omg,if_pos omg] at hn;rw [Ud hn de];exact ⟨rfl,rfl⟩)
  | (rw [if_neg omg,if_neg omg,if_pos omg] at hn;rw [Jxx hn];exact ⟨rfl,rfl⟩)
  | (rw [if_neg omg,if_neg omg,if_neg omg] at hn;rw [Ud hn de];refine ⟨?_,rfl⟩;simp only;congr 1;omega)
def tk (s:List UInt8) (i:Nat):List UInt8×Nat:=if at_ s i=92 then escS (s.drop i) else ((s.drop i).take (rlen s i),rlen s i)
def uqF (s:List UInt8):Nat→Nat→List UInt8→List UInt8×Nat×Nat
 | 0,_,_=>([],s.length,1)
 | f+1,i,out=>if i<s.length then (if at_ s i=34 then (out,i+1,0) else if (tk s i).2=0∨at_ s i<32 then ([],i,1) else uqF s f (i+(tk s i).2) (out ++ (tk s i).1)) else ([],s.length,1)
def uq (s:List UInt8):List UInt8×Nat×Nat:=if s.length=0∨at_ s 0≠34 then ([],0,1) else uqF s (s.length+1) 1 []
theorem Jd0 (s:List UInt8):(escR s).2≤12∧(s.length<(escR s).2→(escR s).2=0):=by
 have key:∀ s:List UInt8,0≤u4 s→6≤s.length:=fun s h=>by
  unfold u4 at h;split at h
  ·rename_i h6;exact h6.1
  ·omega
 unfold escR;split
 ·exact ⟨by decide,fun _=>rfl⟩
 ·split
  ·exact ⟨by simp only;omega,fun h=>by simp only at h;omega⟩
  ·split
   ·exact ⟨by decide,fun _=>rfl⟩
   ·split
    ·exact ⟨by simp only;omega,fun h=>by have:=key s omg;simp only at h;omega⟩
    ·split
     ·exact ⟨by decide,fun _=>rfl⟩
     ·exact ⟨by simp only;omega,fun h=>by
       have h1:=key (s.drop 6) omg;rw [List.length_drop] at h1;simp only at h;omega⟩
theorem Jpb (s:List UInt8):(escS s).1.length≤4∧(escS s).2≤12∧(escS s).2≤s.length:=by
 have h:=Jd0 s;unfold escS;split
 ·exact ⟨by decide,by decide,Nat.zero_le _⟩
 ·exact ⟨Od _,h.1,by rename_i hn;simp only;omega⟩
theorem tk_le (s:List UInt8) (i:Nat) (h:i<s.length):(tk s i).1.length≤4∧(tk s i).2≤12∧i+(tk s i).2≤s.length:=by
 unfold tk;split
 ·have h1:=Jpb (s.drop i);rw [List.length_drop] at h1;exact ⟨h1.1,h1.2.1,by omega⟩
 ·have h1:=M4 s i h;have h2:=Qv s i;exact ⟨by simp;omega,by simp only;omega,h1⟩
theorem d_taken (s:List UInt8) (i:Nat) (hs:s.length≤1000000) (hi:i<s.length):Det cx 329 [.p (.str s),.p (.int .i64 i)] [] (.tup [.str (tk s i).1,.int .i64 (tk s i).2]) []:=by
 have h4:=Qv s i;have h5:=M4 s i hi;(refine bgo Tryz.func329 ?_;simp only [go_sem,simprocAttr,wia (i:=i) (j:=rlen s i) omg omg]);(repeat' (first | (apply iteI <;> intro h)|(refine Jqe ?_)|((first | (refine Jqa (J4u s i hs hi) ?_)|(refine Jqa (Jkd s i hs hi) ?_));simp only [go_sem,simprocAttr,wia (i:=i) (j:=rlen s i) omg omg]) | fail))
 ·unfold tk;rw [if_pos omg];exact ⟨rfl,rfl⟩
 ·unfold tk;rw [if_neg omg,Nat.add_sub_cancel_left];exact ⟨rfl,rfl⟩
theorem Jwu (s:List UInt8) (hs:s.length≤1000000):Det cx 301 [.p (.str s)] [] (.tup [.str (uq s).1,.int .i64 (uq s).2.1,.int .i64 (uq s).2.2]) []:=by
 (refine bgo Tryz.func301 ?_;simp only [go_sem,simprocAttr]);(repeat' (first | (apply iteI <;> intro h)|(refine Jqe ?_) | fail))
 ·unfold uq;rw [if_pos omg];exact ⟨rfl,rfl,rfl⟩
 ·unfold uq;rw [if_pos omg];exact ⟨rfl,rfl,rfl⟩
 have e:uq s=uqF s (s.length+1) 1 []:=by unfold uq;rw [if_neg omg]
 refine SWP.loop (fun x:Nat×Nat×List UInt8=>⟨Ba 50 [(0,.p (.str s)),(5,.p (.str x.2.2)),(6,.p (.int .i64 x.1))],[]⟩) (fun x=>1≤x.1∧x.1≤s.length∧s.length+1≤x.1+x.2.1∧x.2.2.length≤4 * x.1∧uqF s x.2.1 x.1 x.2.2=uq s) (fun x=>s.length - x.1) (1,s.length+1,[]) Jqb ⟨by simp,by simp only;omega,by simp,by simp,e.symm⟩ ?_;rintro ⟨i,f,out⟩ ⟨h0,h1,h2,h3,h4⟩;simp only at h0 h1 h2 h3 h4;obtain ⟨g,rfl⟩:∃ g,f=g+1:=⟨f - 1,by omega⟩
 by_cases hlt:¬ i<s.length
 ·(refine lws ?_;simp only [go_sem,simprocAttr]);(repeat' (first | (apply iteI <;> intro h)|(refine Jqe ?_)|(exfalso;omega)));rw [← h4,uqF,if_neg hlt];exact ⟨rfl,rfl,rfl⟩
 ·have hlt:=Decidable.not_not.1 hlt;have ht:=tk_le s i hlt;(refine lws ?_;simp only [go_sem,simprocAttr,wi1 (i:=i) omg,wia (i:=i) (j:=(tk s i).2) omg omg]);(repeat' (first | (apply iteI <;> intro h)|(refine Jqe ?_)|((refine Jqa (d_taken s i hs hlt) ?_);simp only [go_sem,simprocAttr,wi1 (i:=i) omg,wia (i:=i) (j:=(tk s i).2) omg omg])|(exfalso;omega)))
  ·rw [← h4,uqF,if_pos hlt,if_pos omg];exact ⟨rfl,rfl,rfl⟩
  ·rw [← h4,uqF,if_pos hlt,if_neg omg,if_pos omg];exact ⟨rfl,rfl,rfl⟩
  ·rw [← h4,uqF,if_pos hlt,if_neg omg,if_pos omg];exact ⟨rfl,rfl,rfl⟩
  ·refine ⟨(i+(tk s i).2,g,out ++ (tk s i).1),⟨by simp only;omega,by simp only;omega,by simp only;omega,by simp only [List.length_append];omega,?_⟩,by simp only;omega,Jqb⟩;simp only;rw [← h4,uqF,if_pos hlt,if_neg omg,if_neg omg]
theorem pre2 {s:List UInt8} (h:6≤s.length):s.take 2=[92,117] ↔ at_ s 0=92∧at_ s 1=117:=by
 match s,h with
 | a :: b :: t,_ =>
  simp only [List.take_succ_cons,List.take_zero,List.cons.injEq,and_true,Gu,Jk0];constructor
  ·rintro ⟨rfl,rfl⟩;exact ⟨rfl,rfl⟩
  ·rintro ⟨h1,h2⟩;exact ⟨UInt8.toNat_inj.1 h1,UInt8.toNat_inj.1 h2⟩
theorem Fk (s:List UInt8) (hs:s.length≤1000000):Det cx 292 [.p (.str s)] [] (.p (.int .i64 (u4 s))) []:=by
 by_cases h6:s.length<6
 ·rw [show u4 s = -1 by unfold u4;rw [if_neg omg]];(refine bgo Tryz.func292 ?_;simp only [go_sem,simprocAttr]);(repeat' (first | (apply iteI <;> intro h)|(exact True.intro)|(exfalso;omega)))
 have hT:((s.drop 2).take 4).length=4:=by simp;omega
 have hp:=Zn _ hT;have hca:=Sq _ hT;have hu:u4 s=if at_ s 0=92∧at_ s 1=117 then (match hexN ((s.drop 2).take 4) 0 with | some n=>(n:Int) | none=>-1) else -1:=by
  unfold u4;by_cases hq:at_ s 0=92∧at_ s 1=117
  ·rw [if_pos hq,if_pos ⟨by omega,hq⟩] <;> rfl
  ·rw [if_neg hq,if_neg (fun h=>hq h.2)]
 have hmk:0≤iaF ((s.drop 2).take 4) 5 0→hexN ((s.drop 2).take 4) 0=none:=fun h=>by
  obtain ⟨k,h1,h2⟩:=Y5 _ _ _ h;exact S4 _ _ k h1 h2
 generalize hTT:(s.drop 2).take 4=T at *
 cases hx:hexN T 0 with
 | none =>
  rw [hx] at hp hu;simp only [Vk,ite_self] at hp hu;rw [hu];(refine bgo Tryz.func292 ?_;simp only [go_sem,simprocAttr]);(repeat' (first | (apply iteI <;> intro h)|(refine Jqe ?_)|((first | (refine Jqa (Bj s _ hs de) ?_)|(refine Jqa (hca) ?_)|(refine Jqa (hp) ?_));simp only [go_sem,simprocAttr,hTT])|(exact True.intro)))
  all_goals first
   | (rw [hu,if_neg (by rw [← pre2 omg];assumption)])
   | (rw [hu,if_pos (by rw [← pre2 omg];simp_all)])
 | some n =>
  have hia:¬ 0≤iaF T 5 0:=fun h=>by rw [hmk h] at hx;cases hx
  have hn:=We _ _ _ hx;rw [hT] at hn;have hwn:=wi0 (c:=n) omg;rw [hx] at hp hu;simp only [Vk] at hp hu;(refine bgo Tryz.func292 ?_;simp only [go_sem,simprocAttr]);(repeat' (first | (apply iteI <;> intro h)|(refine Jqe ?_)|((first | (refine Jqa (Bj s _ hs de) ?_)|(refine Jqa (hca) ?_)|(refine Jqa (hp) ?_));simp only [go_sem,simprocAttr,hTT,hTT,hwn])|(exfalso;omega)))
  all_goals first
   | (rw [hu,if_neg (by rw [← pre2 omg];assumption)])
   | (rw [hu,if_pos (by rw [← pre2 omg];simp_all)])
theorem Pf (c:Nat):(Hr c=none∧Cl (.int .u8 c) Ei 0=some none)∨∃ i r,Hr c=some r∧r≤92∧Cl (.int .u8 c) Ei 0=some (some (i,.int .i32 r)):=by
 have key:∀ (b:Int) (v:PV) (es:List (PV×PV)) (i:Nat),Cl (.int .u8 c) ((.int .u8 b,v) :: es) i=if (c:Int)=b then some (some (i,v)) else Cl (.int .u8 c) es (i+1):=fun b v es i=>by
  by_cases h:(c:Int)=b
  ·simp [Cl,Lc,h]
  ·have:((c:Int) == b)=false:=by simp [h]
   simp [Cl,Lc,this,h]
 unfold Hr Ei;simp only [key];have hc:∀ b:Nat,((c:Int)=(b:Int))=(c=b):=fun b=>by apply propext;omega
 have e1:=hc 34;have e2:=hc 92;have e3:=hc 47;have e4:=hc 98;have e5:=hc 102;have e6:=hc 110;have e7:=hc 114;have e8:=hc 116;simp only [Int.cast_ofNat_Int] at e1 e2 e3 e4 e5 e6 e7 e8;simp only [e1,e2,e3,e4,e5,e6,e7,e8];by_cases h1:c=34
 ·exact .inr ⟨0,34,by simp [h1],by decide,by simp [h1]⟩
 by_cases h2:c=92
 ·exact .inr ⟨1,92,by simp [h2],by decide,by simp [h2]⟩
 by_cases h3:c=47
 ·exact .inr ⟨2,47,by simp [h3],by decide,by simp [h3]⟩
 by_cases h4:c=98
 ·exact .inr ⟨3,8,by simp [h4],by decide,by simp [h4]⟩
 by_cases h5:c=102
 ·exact .inr ⟨4,12,by simp [h5],by decide,by simp [h5]⟩
 by_cases h6:c=110
 ·exact .inr ⟨5,10,by simp [h6],by decide,by simp [h6]⟩
 by_cases h7:c=114
 ·exact .inr ⟨6,13,by simp [h7],by decide,by simp [h7]⟩
 by_cases h8:c=116
 ·exact .inr ⟨7,9,by simp [h8],by decide,by simp [h8]⟩
 ·refine .inl ⟨by simp [*],?_⟩;rw [if_neg h1,if_neg h2,if_neg h3,if_neg h4,if_neg h5,if_neg h6,if_neg h7,if_neg h8];rfl
theorem u4_six {s:List UInt8} (h:0≤u4 s):6≤s.length:=by
 unfold u4 at h;split at h
 ·rename_i h6;exact h6.1
 ·omega
theorem Mv (s:List UInt8) (hs:s.length≤1000000):Det cx 255 [.p (.str s)] [] (.tup [.int .i32 (escR s).1,.int .i64 (escR s).2]) []:=by
 obtain ⟨hu1,hu2⟩:=Jee s;obtain ⟨hv1,hv2⟩:=Jee (s.drop 6);have hB:=Fr s 1;have h66:0≤u4 s→6≤s.length:=u4_six;rcases (Pf (at_ s 1)).symm with ⟨i,r,hsr,hr,hmf⟩ | ⟨hsr,hmf⟩
 ·(refine bgo Tryz.func255 ?_;simp only [go_sem,simprocAttr]);(repeat' (first | (apply iteI <;> intro h)|(refine Jqe ?_)|((first | (refine Jqk ?_)|(refine Jqd (Kl) ?_));simp only [go_sem,simprocAttr,hmf]) | fail))
  ·unfold escR;rw [if_pos omg];exact ⟨rfl,rfl⟩
  ·unfold escR;rw [if_neg omg,hsr];exact ⟨rfl,rfl⟩
 ·have z0:=Qs (n:=u4 s) omg omg;have z1:=Aa (n:=u4 s - 55296) omg omg;have z2:IntKind.i64.wrap ((u4 s - 55296) * 2 ^ min 10 (B0 .i64))=(u4 s - 55296) * 1024:=Aa (n:=(u4 s - 55296) * 1024) omg omg;have z3:=Aa (n:=65536+(u4 s - 55296) * 1024) omg omg;have z4:=Aa (n:=65536+(u4 s - 55296) * 1024+u4 (s.drop 6)) omg omg;have z5:=Aa (n:=65536+(u4 s - 55296) * 1024+u4 (s.drop 6) - 56320) omg omg;have z6:=Qs (n:=65536+(u4 s - 55296) * 1024+u4 (s.drop 6) - 56320) omg omg;(refine bgo Tryz.func255 ?_;simp only [go_sem,simprocAttr]);(repeat' (first | (apply iteI <;> intro h)|(refine Jqe ?_)|((first | (refine Jqk ?_)|(refine Jqd (Kl) ?_)|(refine Jqa (Fk _ hs) ?_)|(refine Jqa (Fk (s.drop 6) (by simp;omega)) ?_));simp only [go_sem,simprocAttr,hmf,hmf,z0,z1,z2,z3,z4,z5,z6])|(exfalso;omega)))
  ·unfold escR;rw [if_pos omg];exact ⟨rfl,rfl⟩
  all_goals (unfold escR;rw [if_neg omg,hsr];simp only)
  all_goals ((repeat' split) <;> first | (exfalso;omega)|(exact ⟨rfl,rfl⟩)|(refine ⟨?_,rfl⟩;simp only;omega))
end Go.LX
