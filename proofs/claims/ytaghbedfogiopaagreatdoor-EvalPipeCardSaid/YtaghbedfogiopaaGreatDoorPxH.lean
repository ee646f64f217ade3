/- Package quote, and what the document says: from below. -/
import Derived.Test.YtaghbedfogiopaaGreatDoorPxG
import Derived.Lib.ItoaLen
set_option linter.unusedSimpArgs false
set_option linter.unusedVariables false
set_option linter.unusedSectionVars false
set_option linter.unnecessarySimpa false
set_option maxRecDepth 100000
set_option maxHeartbeats 2000000
namespace Go.LX
open Go Go.RowKit Go.Proofs Go.Proofs.Tryz
attribute [local irreducible] Al SWP Bi
def Ei:List (PV×PV):=[(.int .u8 34,.int .i32 34),(.int .u8 92,.int .i32 92),(.int .u8 47,.int .i32 47),(.int .u8 98,.int .i32 8),(.int .u8 102,.int .i32 12),(.int .u8 110,.int .i32 10),(.int .u8 114,.int .i32 13),(.int .u8 116,.int .i32 9)]
theorem mp0:mput (.int .u8 34) (.int .i32 34) []=some [(.int .u8 34,.int .i32 34)]:=rfl
theorem mp1:mput (.int .u8 92) (.int .i32 92) [(.int .u8 34,.int .i32 34)]=some [(.int .u8 34,.int .i32 34),(.int .u8 92,.int .i32 92)]:=rfl
theorem mp2:mput (.int .u8 47) (.int .i32 47) [(.int .u8 34,.int .i32 34),(.int .u8 92,.int .i32 92)]=some [(.int .u8 34,.int .i32 34),(.int .u8 92,.int .i32 92),(.int .u8 47,.int .i32 47)]:=rfl
theorem mp3:mput (.int .u8 98) (.int .i32 8) [(.int .u8 34,.int .i32 34),(.int .u8 92,.int .i32 92),(.int .u8 47,.int .i32 47)]=some [(.int .u8 34,.int .i32 34),(.int .u8 92,.int .i32 92),(.int .u8 47,.int .i32 47),(.int .u8 98,.int .i32 8)]:=rfl
theorem mp4:mput (.int .u8 102) (.int .i32 12) [(.int .u8 34,.int .i32 34),(.int .u8 92,.int .i32 92),(.int .u8 47,.int .i32 47),(.int .u8 98,.int .i32 8)]=some [(.int .u8 34,.int .i32 34),(.int .u8 92,.int .i32 92),(.int .u8 47,.int .i32 47),(.int .u8 98,.int .i32 8),(.int .u8 102,.int .i32 12)]:=rfl
theorem mp5:mput (.int .u8 110) (.int .i32 10) [(.int .u8 34,.int .i32 34),(.int .u8 92,.int .i32 92),(.int .u8 47,.int .i32 47),(.int .u8 98,.int .i32 8),(.int .u8 102,.int .i32 12)]=some [(.int .u8 34,.int .i32 34),(.int .u8 92,.int .i32 92),(.int .u8 47,.int .i32 47),(.int .u8 98,.int .i32 8),(.int .u8 102,.int .i32 12),(.int .u8 110,.int .i32 10)]:=rfl
theorem mp6:mput (.int .u8 114) (.int .i32 13) [(.int .u8 34,.int .i32 34),(.int .u8 92,.int .i32 92),(.int .u8 47,.int .i32 47),(.int .u8 98,.int .i32 8),(.int .u8 102,.int .i32 12),(.int .u8 110,.int .i32 10)]=some [(.int .u8 34,.int .i32 34),(.int .u8 92,.int .i32 92),(.int .u8 47,.int .i32 47),(.int .u8 98,.int .i32 8),(.int .u8 102,.int .i32 12),(.int .u8 110,.int .i32 10),(.int .u8 114,.int .i32 13)]:=rfl
theorem mp7:mput (.int .u8 116) (.int .i32 9) [(.int .u8 34,.int .i32 34),(.int .u8 92,.int .i32 92),(.int .u8 47,.int .i32 47),(.int .u8 98,.int .i32 8),(.int .u8 102,.int .i32 12),(.int .u8 110,.int .i32 10),(.int .u8 114,.int .i32 13)]=some [(.int .u8 34,.int .i32 34),(.int .u8 92,.int .i32 92),(.int .u8 47,.int .i32 47),(.int .u8 98,.int .i32 8),(.int .u8 102,.int .i32 12),(.int .u8 110,.int .i32 10),(.int .u8 114,.int .i32 13),(.int .u8 116,.int .i32 9)]:=rfl
theorem Kl:Det cx 242 [] [] (.p (.mp Ei)) []:=by
 (refine bgo func242 ?_;simp only[go_sem,simprocAttr,mp0,mp1,mp2,mp3,mp4,mp5,mp6,mp7]);rfl
theorem wi1 {i:Nat} (h:i<=3000000000000000):IntKind.i64.wrap ((i:Int)+1)=((i+1:Nat):Int):=by rw[Aa omg omg];omega
theorem wi2 {i:Nat} (h:i<=3000000000000000):IntKind.i64.wrap ((i:Int)+2)=((i+2:Nat):Int):=by rw[Aa omg omg];omega
theorem wi3 {i:Nat} (h:i<=3000000000000000):IntKind.i64.wrap ((i:Int)+3)=((i+3:Nat):Int):=by rw[Aa omg omg];omega
theorem wi6 {i:Nat} (h:i<=3000000000000000):IntKind.i64.wrap ((i:Int)+6)=((i+6:Nat):Int):=by rw[Aa omg omg];omega
theorem wia {i j:Nat} (h:i<=3000000000000000) (h2:j<=3000000000000000):IntKind.i64.wrap ((i:Int)+(j:Int))=((i+j:Nat):Int):=by rw[Aa omg omg];omega
theorem Jl7 (s:List UInt8) (i:Nat) (hs:s.length<=1000000) (hi:i<=2000000):Det cx 151 [.p (.str s),.p (.int .i64 i)] [] (.p (.bool (ct s i))) []:=by
 (refine bgo func151 ?_;simp only[go_sem,simprocAttr]);(repeat'(first|(apply iteI<;>intro h)|refine Jqj ?_|fail))
 all_goals (rw[Ea4];simp[ct];omega)
theorem ct_lt {s:List UInt8} {k:Nat} (h:ct s k=true):k<s.length:=(J3.1 h).1
theorem Jkd (s:List UInt8) (i:Nat) (hs:s.length<=1000000) (hi:i<s.length):Det cx 113 [.p (.str s),.p (.int .i64 i)] [] (.p (.int .i64 (rlen s i))) []:=by
 have w1:=wi1 (i:=i) omg;have w2:=wi2 (i:=i) omg;have w3:=wi3 (i:=i) omg;have hA:=Fr s i;have hB:=Fr s (i+1);(refine bgo func113 ?_;simp only[go_sem,simprocAttr,w1]);(repeat'(first|(apply iteI<;>intro h)|refine Jqj ?_|((refine Jqa (Jl7 s _ hs omg) ?_);simp only[go_sem,simprocAttr,w1,w2,w3])|(refine And.intro (ct_lt (by assumption)) ?_)|(exfalso;omega)))
 all_goals (clear w1 w2 w3;unfold rlen;simp only[J3] at *;(repeat' split)<;>omega)
def vF (s:List UInt8):Nat->Nat->Bool
 | 0,_=>true
 | f+1,i=>if i<s.length then (if rlen s i=0 then false else vF s f (i+rlen s i)) else true
def valid (s:List UInt8):Bool:=vF s (s.length+1) 0
theorem Cn (s:List UInt8) (hs:s.length<=1000000):Det cx 57 [.p (.str s)] [] (.p (.bool (valid s))) []:=by
 (refine bgo func57 ?_;simp only[go_sem,simprocAttr]);refine SWP.loop (fun x:Nat×Nat=>⟨Ba 17 [(0,.p (.str s)),(3,.p (.int .i64 x.1))],[]⟩) (fun x=>x.1<=s.length/\s.length+1<=x.1+x.2/\vF s x.2 x.1=valid s) (fun x=>s.length - x.1) (0,s.length+1) Jqc ⟨by simp,by simp,rfl⟩ ?_;rintro ⟨i,f⟩ ⟨h1,h2,h3⟩;simp only at h1 h2 h3;obtain ⟨g,rfl⟩:∃ g,f=g+1:=⟨f - 1,omg⟩
 have h4:=Qv s i;have hw:=wia (i:=i) (j:=rlen s i) omg omg;(refine lws ?_;simp only[go_sem,simprocAttr]);(repeat'(first|(apply iteI<;>intro h)|((refine Jqa (Jkd s i hs omg) ?_);simp only[go_sem,simprocAttr,hw])|fail))
 ·rw[<- h3,vF,if_pos omg,if_pos omg]
 ·have:=M4 s i omg;exact ⟨(i+rlen s i,g),⟨by simp only;omega,by simp only;omega,by simp only;rw[<- h3,vF,if_pos omg,if_neg omg]⟩,by simp only;omega,Jqc⟩
 ·rw[<- h3,vF,if_neg omg]
theorem d_hex (n:Nat) (h:n<16):Det cx 152 [.p (.int .i64 n)] [] (.p (.str [hexd n])) []:=by
 (refine bgo func152 ?_;simp only[go_sem,simprocAttr,wi1 (i:=n) omg]);(repeat'(first|refine Jqj ?_|fail));have key:∀ m:Fin 16,List.take (m.val+1 - m.val) (List.drop m.val [48,49,50,51,52,53,54,55,56,57,97,98,99,100,101,102])=[hexd m.val]:=by decide
 exact key ⟨n,h⟩
def wr (c:Nat):List UInt8 :=
 if c=34 then [92,34] else if c=92 then [92,92] else if c=8 then [92,98] else if c=12 then [92,102] else if c=10 then [92,110] else if c=13 then [92,114] else if c=9 then [92,116]
 else if c<32 then [92,117,48,48,hexd (c / 16),hexd (c % 16)] else [UInt8.ofNat c]
theorem td16 {c:Nat} (h:c<=3000000000000000):IntKind.i64.wrap ((c:Int).tdiv 16)=((c / 16:Nat):Int):=by
 rw[Ec9 omg,Aa omg omg];omega
theorem tm16 {c:Nat}:(c:Int).tmod 16=((c % 16:Nat):Int):=by
 rw[Eda omg];omega
theorem wi0 {c:Nat} (h:c<=3000000000000000):IntKind.i64.wrap (c:Int)=(c:Int):=Aa omg omg
theorem J43 {c:Nat} (h:c<=255) {bs:List UInt8}:Rr (c:Int) (some bs)=some (UInt8.ofNat c :: bs):=by
 simp only[Rr];rw[if_pos omg];rfl
theorem Kcp (c:Nat) (hc:c<=255):Det cx 114 [.p (.int .u8 c)] [] (.p (.str (wr c))) []:=by
 (refine bgo func114 ?_;simp only[go_sem,simprocAttr,td16 (c:=c) omg,wi0 (c:=c) omg,J43 hc]);(repeat'(first|(apply iteI<;>intro h)|((first|(refine Jqa (d_hex (c / 16) omg) ?_)|(refine Jqa (d_hex (c % 16) omg) ?_));simp only[go_sem,simprocAttr,td16 (c:=c) omg,tm16,wi0 (c:=c) omg,J43 hc])|fail))
 all_goals (unfold wr;(repeat' split)<;>first|rfl | (exfalso;omega))
theorem N0 (n:Int) (h0:-9223372036854775808<=n) (h1:n<=9223372036854775807):Det cx 91 [.p (.int .i64 n)] [] (.p (.str (Lib.itoa n))) []:=by
 refine Jr1 (v:=.string ⟨⟨Lib.itoa n⟩⟩) (enters_of func91 kr rfl) rfl (fun β w Im=>PRep.str _) fun β Im w vs hg hf=>?_
 obtain ⟨v,rfl,hv⟩:=fit1 hf;have:=Mz hv;subst this;refine (Tryz.strconv_Itoa n h0 h1 w (Jbj hg).pow).mono fun e w' ⟨h,k,os,hw⟩=>⟨h,?_⟩
 subst hw;exact ⟨rfl,rfl,rfl,by show w.heap.size<=(w.heap ++ os).size;rw[Array.size_append];omega,fun _ hj=>Sort.heap_grow_old (w.drewN k) os hj⟩
def Qh (s:List UInt8):L:=match Lib.atoiAll s with
 | .ok v=>.tup [.int .i64 v,.nifc]
 | .range=>.tup [.int .i64 (Lib.atoiSat s),.ifc]
 | _=>.tup [.int .i64 0,.ifc]
theorem tupP {β:Env} {w:World} {Im:Nat->Prop} {a b:Value} {x y:PV} (h1:PRep w Im a x) (h2:PRep w Im b y):LRep β w Im (.tuple #[a,b]) (.tup [x,y]) :=
 ⟨[
  a,b],rfl,rfl,fun i v p hi hp=>by
  match i,hi,hp with
  | 0,hi,hp=>simp at hi hp;subst hi;subst hp;exact h1
  | 1,hi,hp=>simp at hi hp;subst hi;subst hp;exact h2
  | i+2,hi,hp=>simp at hi⟩
theorem U9 (s:List UInt8) (hs:s.length<=1000000):Det cx 191 [.p (.str s)] [] (Qh s) []:=by
 refine Jw9 (enters_of func191 kr rfl) fun β Im w vs hg hf=>?_
 obtain ⟨v,rfl,h1⟩:=fit1 hf;cases Ks h1;unfold Qh;cases ha:Lib.atoiAll s with
 | ok n =>
  refine (Tryz.strconv_Atoi_ok ⟨⟨s⟩⟩ (by show s.length<=_;omega) n ha w).mono fun e w' ⟨h,hw⟩=>⟨⟨_,h,fun β w Im=>tupP (.int _ _) .nifc⟩,?_⟩
  rcases hw with rfl | ⟨u,rfl⟩
  ·exact Below.refl _ _
  ·exact Lib.bytesWorld_below _ _ _
 | range =>
  obtain ⟨te,pe,he⟩:=(Jbj hg).rng;exact (Tryz.strconv_Atoi_range ⟨⟨s⟩⟩ (Nat.le_trans hs de) ha _ w he (.inr ⟨te,pe,rfl⟩)).mono fun e w' ⟨N,h,_,_,hb⟩=>⟨⟨_,h,fun β w Im=>tupP (.int _ _) (.ifc _ _)⟩,hb⟩
 | _ =>
  obtain ⟨te,pe,he⟩:=(Jbj hg).syn;exact (Any.strconv_Atoi_syntax Juq ⟨⟨s⟩⟩ (Nat.le_trans hs de) ha _ w he (.inr ⟨te,pe,rfl⟩)).mono fun e w' ⟨N,h,_,_,hb⟩=>⟨⟨_,h,fun β w Im=>tupP (.int _ _) (.ifc _ _)⟩,hb⟩
theorem R6 (s:List UInt8) (hs:s.length<=9223372036854775807):Det cx 134 [.p (.str s)] [] (.p (.bool (Lib.validD s))) []:=by
 refine Jr1 (v:=.bool (Lib.validD s)) (enters_of func134 kr rfl) rfl (fun _ _ _=>.bool _) fun β Im w vs hg hf=>?_
 obtain ⟨v,rfl,h1⟩:=fit1 hf;cases Ks h1;exact Any.utf8_ValidString J34 ⟨⟨s⟩⟩ w hs (Jbj hg).tabs
theorem Yj (s:List UInt8) (i:Nat):Lib.decodeL (s.drop i)=dec s i:=by
 show dec (s.drop i) 0=dec s i;rw[Qy,Nat.add_zero]
theorem Te:∀ (f:Nat) (s:List UInt8) (i:Nat),s.length<i+f->vF s f i=Lib.validD (s.drop i)
 | 0,s,i,h=>by rw[Eao omg];rfl
 | f+1,s,i,h=>by
  rw[vF];by_cases hi:i<s.length
  ·rw[if_pos hi];have hne:s.drop i≠[]:=fun e=>by have:=congrArg List.length e;simp at this;omega
   rw[Lib.validD_step _ hne,Yj,Kkb];by_cases hr:rlen s i=0
   ·rw[if_pos hr,if_pos hr,if_pos ⟨rfl,rfl⟩]
   ·rw[if_neg hr,if_neg hr];have hc:¬ (code s i=65533/\rlen s i=1):=fun ⟨c1,c2⟩=>by
     rcases Fd s i with e | ⟨e,g⟩ | ⟨e,_⟩ | ⟨e,_⟩ | ⟨e,_⟩
     ·exact hr e
     ·have:code s i=at_ s i:=by unfold code;rw[if_pos g]
      omega
     ·omega
     ·omega
     ·omega
    rw[if_neg hc,Ebj];exact Te f s _ omg
  ·rw[if_neg hi,Eao omg];rfl
theorem Fi (s:List UInt8) (hs:s.length<=9223372036854775807):Det cx 134 [.p (.str s)] [] (.p (.bool (valid s))) []:=by
 have h:=R6 s hs;have e:Lib.validD s=valid s:=by unfold valid;rw[Te _ s 0 omg,Ebn]
 rw[e] at h;exact h
def letP (c:Nat):Prop:=(97<=c/\c<=122)\/(65<=c/\c<=90)\/c=95
instance (c:Nat):Decidable (letP c):=inferInstanceAs (Decidable (_\/_))
def figP (c:Nat):Prop:=48<=c/\c<=57
instance (c:Nat):Decidable (figP c):=inferInstanceAs (Decidable (_/\_))
def wF (s:List UInt8):Nat->Nat->Nat
 | 0,i=>i
 | f+1,i=>if i<s.length/\(letP (at_ s i)\/(0<i/\figP (at_ s i))) then wF s f (i+1) else i
def Dm (s:List UInt8):Nat:=wF s (s.length+1) 0
def isWd (s:List UInt8):Prop:=s≠[]/\Dm s=s.length
instance (s:List UInt8):Decidable (isWd s):=inferInstanceAs (Decidable (_/\_))
theorem wF_le (s:List UInt8):∀ f i,i<=s.length->i<=wF s f i/\wF s f i<=s.length
 | 0,i,h=>⟨Eah _,h⟩
 | f+1,i,h=>by
  rw[wF];split
  ·have:=wF_le s f (i+1) omg;omega
  ·exact ⟨Eah _,h⟩
theorem P3 (s:List UInt8):Dm s<=s.length:=(wF_le s _ 0 (Eau _)).2
theorem Rl (c:Nat):Det cx 208 [.p (.int .u8 c)] [] (.p (.bool (decide (letP c)))) []:=by
 (refine bgo func208 ?_;simp only[go_sem,simprocAttr]);(repeat'(first|(apply iteI<;>intro h)|(exfalso;omega)))
 all_goals first|exact decide_eq_decide.2 (by unfold letP;omega) | exact (decide_eq_false (by unfold letP;omega)).symm | exact (decide_eq_true (by unfold letP;omega)).symm
theorem Rc (c:Nat):Det cx 209 [.p (.int .u8 c)] [] (.p (.bool (decide (figP c)))) []:=by
 (refine bgo func209 ?_;simp only[go_sem,simprocAttr]);(repeat'(apply iteI<;>intro h))
 all_goals first|exact decide_eq_decide.2 (by unfold figP;omega) | exact (decide_eq_false (by unfold figP;omega)).symm | exact (decide_eq_true (by unfold figP;omega)).symm
theorem Nw (s:List UInt8) (hs:s.length<=1000000):Det cx 185 [.p (.str s)] [] (.p (.int .i64 (Dm s))) []:=by
 (refine bgo func185 ?_;simp only[go_sem,simprocAttr]);refine SWP.loop (fun x:Nat×Nat=>⟨Ba 27 [(0,.p (.str s)),(3,.p (.int .i64 x.1))],[]⟩) (fun x=>x.1<=s.length/\s.length+1<=x.1+x.2/\wF s x.2 x.1=Dm s) (fun x=>s.length - x.1) (0,s.length+1) Jqc ⟨by simp,by simp,rfl⟩ ?_;rintro ⟨i,f⟩ ⟨h1,h2,h3⟩;simp only at h1 h2 h3;obtain ⟨g,rfl⟩:∃ g,f=g+1:=⟨f - 1,omg⟩
 rw[wF] at h3;(refine lws ?_;simp only[go_sem,simprocAttr,wi1 (i:=i) omg]);(repeat'(first|(apply iteI<;>intro h)|refine Jqj ?_|((first|(refine Jqa (Rl _) ?_)|(refine Jqa (Rc _) ?_));simp only[go_sem,simprocAttr,wi1 (i:=i) omg])|fail))
 all_goals first
  | exact ⟨(i+1,g),⟨by simp only;omega,by simp only;omega,by simp only;rw[<- h3,if_pos ⟨omg,.inl (by assumption)⟩]⟩,by simp only;omega,Jqc⟩
  | exact ⟨(i+1,g),⟨by simp only;omega,by simp only;omega,by simp only;rw[<- h3,if_pos ⟨omg,.inr ⟨omg,by assumption⟩⟩]⟩,by simp only;omega,Jqc⟩
  | (rw[<- h3,if_neg (fun hc=>by
    obtain ⟨c1,c2⟩:=hc;rcases c2 with c2 | ⟨c3,c2⟩
    ·first|(exfalso;omega) | contradiction
    ·first|(exfalso;omega) | contradiction)])
theorem Er (s:List UInt8) (hs:s.length<=1000000):Det cx 187 [.p (.str s)] [] (.p (.bool (decide (isWd s)))) []:=by
 (refine bgo func187 ?_;simp only[go_sem,simprocAttr]);(repeat'(first|(apply iteI<;>intro h)|((refine Jqa (Nw s hs) ?_);simp only[go_sem,simprocAttr])|fail))
 ·have hne:s≠[]:=fun e=>by subst e;simp at *
  rw[Ea4,beq_iff_eq,decide_eq_true_eq];exact ⟨fun h=>⟨hne,omg⟩,fun h=>by have:=h.2;omega⟩
 ·exact (decide_eq_false (fun h=>h.1 (Ean omg))).symm
theorem Jvl (s:List UInt8) (hs:s.length<=1000000):Det cx 59 [.p (.str s)] [] (.p (.bool (decide (isWd s)))) []:=by
 (refine bgo func59 ?_;simp only[go_sem,simprocAttr]);refine SWP.loop (fun x:Nat×Nat=>⟨Ba 49 [(0,.p (.str s)),(3,.p (.int .i64 x.1))],[]⟩) (fun x=>x.1<=s.length/\s.length+1<=x.1+x.2/\wF s x.2 x.1=Dm s) (fun x=>s.length - x.1) (0,s.length+1) Jqc ⟨by simp,by simp,rfl⟩ ?_;rintro ⟨i,f⟩ ⟨h1,h2,h3⟩;simp only at h1 h2 h3;obtain ⟨g,rfl⟩:∃ g,f=g+1:=⟨f - 1,omg⟩
 rw[wF] at h3;(refine lws ?_;simp only[go_sem,simprocAttr,wi1 (i:=i) omg]);(repeat'(first|(apply iteI<;>intro h)|refine Jqj ?_|(exfalso;omega)))
 all_goals first
  | exact ⟨(i+1,g),⟨by simp only;omega,by simp only;omega,by simp only;rw[<- h3,if_pos ⟨omg,by unfold letP figP;omega⟩]⟩,by simp only;omega,Jqc⟩
  | (
   have hc:¬ (i<s.length/\(letP (at_ s i)\/(0<i/\figP (at_ s i)))):=by unfold letP figP;omega
   rw[if_neg hc] at h3;exact (decide_eq_false (fun hw=>by have:=hw.2;omega)).symm)
  | skip
 have hc:¬ (i<s.length/\(letP (at_ s i)\/(0<i/\figP (at_ s i)))):=fun h=>by have:=h.1;omega
 rw[if_neg hc] at h3;have hwl:Dm s=s.length:=by omega
 cases s with
 | nil=>simp[isWd]
 | cons c t =>
  have:isWd (c :: t):=⟨by simp,hwl⟩
  simp[this]
end Go.LX
namespace Go.LX
open Go Go.RowKit Go.Proofs
attribute [local irreducible] Al SWP Bi
structure Step where
 part:Bool
 name:List UInt8
 n:Int
def Step.cells (x:Step):List PV:=[.bool x.part,.str x.name,.int .i64 x.n]
def Bb (p:List Step):List (List PV):=p.map Step.cells
@[simp] theorem Aq (p:List Step):(Bb p).length=p.length:=by simp[Bb]
theorem Dk {p:List Step} {i:Nat} {x:Step} (h:p[i]? = some x):(Bb p)[i]? = some [.bool x.part,.str x.name,.int .i64 x.n]:=by
 simp[Bb,h,Step.cells]
def Bc (x:Step):Prop:=if x.part=true then x.name=[]/\0<=x.n/\x.n<=1000000 else x.n=0/\valid x.name=true
instance (x:Step):Decidable (Bc x):=by unfold Bc;exact inferInstance
def E9 (p:List Step):Prop:=p.length<=20/\∀ x∈p,Bc x
instance (p:List Step):Decidable (E9 p):=inferInstanceAs (Decidable (_/\_))
end Go.LX
namespace Go.LX
open Go Go.RowKit Go.Proofs Go.Proofs.Tryz
attribute [local irreducible] Al SWP Bi
def wrs (s:List UInt8):List UInt8:=s.flatMap fun c=>wr c.toNat
def refQ (s:List UInt8):List UInt8:=34 :: wrs s ++ [34]
theorem Kk1 (c:Nat):(wr c).length<=6:=by
 unfold wr
 repeat' split
 all_goals simp
theorem Jlg (s:List UInt8):(wrs s).length<=6 * s.length:=by
 induction s with
 | nil=>simp[wrs]
 | cons c s ih =>
  have:=Kk1 c.toNat;simp only[wrs,Ec5,Eac,Ead] at ih ⊢;omega
theorem Kfi {s:List UInt8} {i:Nat} (h:i<s.length):wrs (s.take (i+1))=wrs (s.take i) ++ wr (at_ s i):=by
 have e:s.take (i+1)=s.take i ++ [s[i]]:=by rw[Ebc,Eaa h];rfl
 rw[e];simp only[wrs,Ec6,Ec5,List.flatMap_nil,Eaw,Ql h]
@[simp] theorem wrs_nil:wrs []=[]:=rfl
theorem J16 (s:List UInt8) (hs:s.length<=1000000):Det cx 60 [.p (.str s)] [] (.p (.str (refQ s))) []:=by
 (refine bgo func60 ?_;simp only[go_sem,simprocAttr]);refine SWP.loop (fun i:Nat=>⟨Ba 19 [(0,.p (.str s)),(3,.p (.str (34 :: wrs (s.take i)))),(4,.p (.int .i64 i))],[]⟩) (fun i=>i<=s.length) (fun i=>s.length - i) 0 Jqc (Eau _) ?_;rintro i h1;have hw:=Jlg (s.take i);have hl:(s.take i).length<=s.length:=List.length_take_le' ..
 have hr:=Kk1 (at_ s i);(refine lws ?_;simp only[go_sem,simprocAttr,wi1 (i:=i) omg]);(repeat'(first|(apply iteI<;>intro h)|refine Jqj ?_|((refine Jqa (Kcp _ (Fr s i)) ?_);simp only[go_sem,simprocAttr,wi1 (i:=i) omg])|fail))
 ·refine ⟨i+1,omg,omg,?_⟩;rw[Kfi omg];exact Jqc
 ·rw[Eae omg];rfl
def u4 (s:List UInt8):Int:=if 6<=s.length/\at_ s 0=92/\at_ s 1=117 then (match hexN ((s.drop 2).take 4) 0 with | some n=>(n:Int) | none=>-1) else -1
theorem Kgx (s:List UInt8) (i:Nat):u4 (s.drop i)=if i+6<=s.length/\at_ s i=92/\at_ s (i+1)=117 then (match hexN ((s.drop (i+2)).take 4) 0 with | some n=>(n:Int) | none=>-1) else -1:=by
 have e:(6<=(s.drop i).length/\at_ (s.drop i) 0=92/\at_ (s.drop i) 1=117)=(i+6<=s.length/\at_ s i=92/\at_ s (i+1)=117):=by
  simp only[Ea5,Ko,Nat.add_zero];apply propext;omega
 unfold u4;simp only[e,Ebj,Ecw 2 i]
theorem d_unit (s:List UInt8) (i:Nat) (hs:s.length<=1000000) (hi:i<=2000000):Det cx 275 [.p (.str s),.p (.int .i64 i)] [] (.p (.int .i64 (u4 (s.drop i)))) []:=by
 have hA:=Fr s i;have hB:=Fr s (i+1);(refine bgo func275 ?_;simp only[go_sem,simprocAttr,wi1 (i:=i) omg,wi2 (i:=i) omg,wi6 (i:=i) omg]);rw[Kgx];(repeat'(first|(apply iteI<;>intro h)|refine Jqj ?_|fail))
 ·rw[if_neg omg]
 ·rw[if_neg omg]
 ·rw[if_neg omg]
 rw[if_pos omg];have hT:((s.drop (i+2)).take 4).length=4:=by simp;omega
 have hTa:∀ j,j<4->at_ ((s.drop (i+2)).take 4) j=at_ s (i+2+j):=fun j hj=>by
  rw[<- Ko];simp[at_,Eaj,Eas,hj]
 generalize (s.drop (i+2)).take 4=T at *
 refine SWP.loop (fun x:Nat×Nat=>⟨Ba 77 [(0,.p (.str s)),(1,.p (.int .i64 i)),(5,.p (.int .i64 x.2)),(6,.p (.int .i64 (i+2+x.1:Nat)))],[]⟩) (fun x=>x.1<=4/\x.2<16 ^ x.1/\hexN (T.drop x.1) x.2=hexN T 0) (fun x=>4 - x.1) (0,0) Jqc ⟨omg,by decide,rfl⟩ ?_;rintro ⟨j,n⟩ ⟨h1,h2,h3⟩;simp only at h1 h2 h3;have hP:j<4->n<4096:=fun h=>Ebe h2 (Nat.le_trans (Ec1 de (show j<=3 by omega)) de)
 have hS:j<4->∀ d<16,n * 16+d<16 ^ (j+1):=fun h d hd=>by rw[Nat.pow_succ];omega
 have hC:=Fr s (i+2+j);(refine lws ?_;simp only[go_sem,simprocAttr,wi1 (i:=i) omg,wi2 (i:=i) omg,wi6 (i:=i) omg,wi0 (c:=at_ s (i+2+j)) omg,wi1 (i:=i+2+j) omg]);(repeat'(first|(apply iteI<;>intro h)|refine Jqj ?_|(exfalso;omega)))
 all_goals first
  | (
   have hd:48<=at_ s (i+2+j)/\at_ s (i+2+j)<=57:=by omega
   have hv:hexv (at_ T j)=some (at_ s (i+2+j) - 48):=by rw[hTa j omg];unfold hexv;rw[if_pos omg]
   have hn:=hP omg;refine ⟨(j+1,n * 16+(at_ s (i+2+j) - 48)),⟨by simp only;omega,hS omg _ omg,?_⟩,by simp only;omega,Jqc⟩;simp only;rw[<- h3,Nn (i:=j) (n:=n) omg,hv])
  | (
   have hd:97<=at_ s (i+2+j)/\at_ s (i+2+j)<=102:=by omega
   have hv:hexv (at_ T j)=some (at_ s (i+2+j) - 87):=by rw[hTa j omg];unfold hexv;rw[if_neg omg,if_pos omg]
   have hn:=hP omg;refine ⟨(j+1,n * 16+(at_ s (i+2+j) - 87)),⟨by simp only;omega,hS omg _ omg,?_⟩,by simp only;omega,Jqc⟩;simp only;rw[<- h3,Nn (i:=j) (n:=n) omg,hv])
  | (
   have hd:65<=at_ s (i+2+j)/\at_ s (i+2+j)<=70:=by omega
   have hv:hexv (at_ T j)=some (at_ s (i+2+j) - 55):=by rw[hTa j omg];unfold hexv;rw[if_neg omg,if_neg omg,if_pos omg]
   have hn:=hP omg;refine ⟨(j+1,n * 16+(at_ s (i+2+j) - 55)),⟨by simp only;omega,hS omg _ omg,?_⟩,by simp only;omega,Jqc⟩;simp only;rw[<- h3,Nn (i:=j) (n:=n) omg,hv])
  | (
   have e:hexN T 0=none:=by
    rw[<- h3,Nn (i:=j) (n:=n) omg,hTa j omg,show hexv (at_ s (i+2+j))=none by unfold hexv;rw[if_neg omg,if_neg omg,if_neg omg]]
   rw[e])
  | (
   have e:hexN T 0=some n:=by
    rw[<- h3,Eao omg];rfl
   rw[e])
def Hr (c:Nat):Option Nat :=
 if c=34 then some 34 else if c=92 then some 92 else if c=47 then some 47 else if c=98 then some 8 else if c=102 then some 12 else if c=110 then some 10 else if c=114 then some 13 else if c=116 then some 9 else none
def escR (s:List UInt8):Int×Nat :=
 if s.length<2 then (0,0) else match Hr (at_ s 1) with
  | some r=>(r,2)
  | none=>if u4 s<0\/(56320<=u4 s/\u4 s<57344) then (0,0) else if u4 s<55296\/57344<=u4 s then (u4 s,6)
   else if u4 (s.drop 6)<56320\/57344<=u4 (s.drop 6) then (0,0) else (65536+(u4 s - 55296) * 1024+(u4 (s.drop 6) - 56320),12)
def escS (s:List UInt8):List UInt8×Nat:=if (escR s).2=0 then ([],0) else (utf (escR s).1,(escR s).2)
theorem Jee (s:List UInt8):-1<=u4 s/\u4 s<65536:=by
 unfold u4;split
 ·split
  ·rename_i n h;have:=We _ _ _ h;have hl:((s.drop 2).take 4).length=4:=by simp;omega
   rw[hl] at this;omega
  ·omega
 ·omega
theorem d_utf (n:Int) (h:Cy n):Det cx 276 [.p (.int .i64 n)] [] (.p (.str (utf n))) []:=by
 have h':=h;unfold Cy at h';(refine bgo func276 ?_;simp only[go_sem,simprocAttr]);(repeat'(apply iteI<;>intro h))
 ·rw[utf,Nb omg];rfl
 ·rw[utf,Oc omg];simp (disch:=omega) only [Ec9,Eda,Aa,Eaq,Eca]
 ·rw[utf,Nd omg];simp (disch:=omega) only [Ec9,Eda,Aa,Eaq,Eca]
 ·rw[utf,Nk omg];simp (disch:=omega) only [Ec9,Eda,Aa,Eaq,Eca]
theorem fl0:at_ [34,92,47,98,102,110,114,116] 0=34:=rfl
theorem fl1:at_ [34,92,47,98,102,110,114,116] 1=92:=rfl
theorem fl2:at_ [34,92,47,98,102,110,114,116] 2=47:=rfl
theorem fl3:at_ [34,92,47,98,102,110,114,116] 3=98:=rfl
theorem fl4:at_ [34,92,47,98,102,110,114,116] 4=102:=rfl
theorem fl5:at_ [34,92,47,98,102,110,114,116] 5=110:=rfl
theorem fl6:at_ [34,92,47,98,102,110,114,116] 6=114:=rfl
theorem fl7:at_ [34,92,47,98,102,110,114,116] 7=116:=rfl
theorem wk1:IntKind.i64.wrap 1=1:=by decide
theorem wk2:IntKind.i64.wrap 2=2:=by decide
theorem wk3:IntKind.i64.wrap 3=3:=by decide
theorem wk4:IntKind.i64.wrap 4=4:=by decide
theorem wk5:IntKind.i64.wrap 5=5:=by decide
theorem wk6:IntKind.i64.wrap 6=6:=by decide
theorem wk7:IntKind.i64.wrap 7=7:=by decide
theorem wk8:IntKind.i64.wrap 8=8:=by decide
theorem J9t {s:List UInt8} {i:Nat} (h:s.length<=i+1):escR (s.drop i)=(0,0):=by
 unfold escR;rw[if_pos (by rw[Ea5];omega)]
theorem Jtf {s:List UInt8} {i r:Nat} (h:i+1<s.length) (hr:Hr (at_ s (i+1))=some r):escR (s.drop i)=((r:Int),2):=by
 unfold escR;rw[if_neg (by rw[Ea5];omega),Ko,hr]
theorem Kc7 {s:List UInt8} {i:Nat} (h:i+1<s.length) (hr:Hr (at_ s (i+1))=none):escR (s.drop i) =
  if u4 (s.drop i)<0\/(56320<=u4 (s.drop i)/\u4 (s.drop i)<57344) then (0,0) else if u4 (s.drop i)<55296\/57344<=u4 (s.drop i) then (u4 (s.drop i),6)
   else if u4 (s.drop (i+6))<56320\/57344<=u4 (s.drop (i+6)) then (0,0) else (65536+(u4 (s.drop i) - 55296) * 1024+(u4 (s.drop (i+6)) - 56320),12):=by
 unfold escR;rw[if_neg (by rw[Ea5];omega),Ko,hr];simp only[Ebj]
theorem Jzy {s:List UInt8} (h:escR s=(0,0)):escS s=([],0):=by
 unfold escS;rw[h];rfl
theorem Ud {s:List UInt8} {r:Int} {n:Nat} (h:escR s=(r,n)) (hn:n≠0):escS s=(utf r,n):=by
 unfold escS;rw[h];simp[hn]
theorem J84 (s:List UInt8) (i:Nat) (hs:s.length<=1000000) (hi:i<s.length):Det cx 270 [.p (.str s),.p (.int .i64 i)] [] (.tup [.str (escS (s.drop i)).1,.int .i64 (escS (s.drop i)).2]) []:=by
 have hB:=Fr s (i+1);obtain ⟨hu1,hu2⟩:=Jee (s.drop i);obtain ⟨hv1,hv2⟩:=Jee (s.drop (i+6));have z1:=Aa (n:=u4 (s.drop i) - 55296) omg omg;have z2:=Aa (n:=1024 * (u4 (s.drop i) - 55296)) omg omg;have z3:=Aa (n:=65536+1024 * (u4 (s.drop i) - 55296)) omg omg;have z4:=Aa (n:=65536+1024 * (u4 (s.drop i) - 55296)+u4 (s.drop (i+6))) omg omg;have z5:=Aa (n:=65536+1024 * (u4 (s.drop i) - 55296)+u4 (s.drop (i+6)) - 56320) omg omg;(refine bgo func270 ?_;simp only[go_sem,simprocAttr,wi1 (i:=i) omg,wi6 (i:=i) omg]);(repeat'(apply iteI<;>intro h))
 ·rw[Jzy (J9t omg)];exact ⟨rfl,rfl⟩
 (refine SWP.rounds 9 ?_;refine Jss hm ?_;simp only[go_sem,simprocAttr,wi1 (i:=i) omg,wi6 (i:=i) omg]);(repeat'(first|(apply iteI<;>intro h)|refine Jqj ?_|((first|refine Jqm ?_|(refine Jqa (d_unit s _ hs omg) ?_)|(refine Jqa (d_utf _ (by unfold Cy;omega)) ?_));simp only[go_sem,simprocAttr,wi1 (i:=i) omg,wi6 (i:=i) omg,fl0,fl1,fl2,fl3,fl4,fl5,fl6,fl7,wk1,wk2,wk3,wk4,wk5,wk6,wk7,wk8,z1,z2,z3,z4,z5])|(refine Jss hm ?_;simp only[go_sem,simprocAttr,wi1 (i:=i) omg,wi6 (i:=i) omg])|(exfalso;omega)))
 ·rw[Ud (Jtf (r:=34) omg (by unfold Hr;(repeat (first|rw[if_pos omg] | rw[if_neg omg])))) de];exact ⟨rfl,rfl⟩
 ·rw[Ud (Jtf (r:=92) omg (by unfold Hr;(repeat (first|rw[if_pos omg] | rw[if_neg omg])))) de];exact ⟨rfl,rfl⟩
 ·rw[Ud (Jtf (r:=47) omg (by unfold Hr;(repeat (first|rw[if_pos omg] | rw[if_neg omg])))) de];exact ⟨rfl,rfl⟩
 ·rw[Ud (Jtf (r:=8) omg (by unfold Hr;(repeat (first|rw[if_pos omg] | rw[if_neg omg])))) de];exact ⟨rfl,rfl⟩
 ·rw[Ud (Jtf (r:=12) omg (by unfold Hr;(repeat (first|rw[if_pos omg] | rw[if_neg omg])))) de];exact ⟨rfl,rfl⟩
 ·rw[Ud (Jtf (r:=10) omg (by unfold Hr;(repeat (first|rw[if_pos omg] | rw[if_neg omg])))) de];exact ⟨rfl,rfl⟩
 ·rw[Ud (Jtf (r:=13) omg (by unfold Hr;(repeat (first|rw[if_pos omg] | rw[if_neg omg])))) de];exact ⟨rfl,rfl⟩
 ·rw[Ud (Jtf (r:=9) omg (by unfold Hr;(repeat (first|rw[if_pos omg] | rw[if_neg omg])))) de];exact ⟨rfl,rfl⟩
 all_goals have hsr:Hr (at_ s (i+1))=none:=by unfold Hr;(repeat (first|rw[if_pos omg] | rw[if_neg omg]))
 all_goals have hn:=Kc7 (s:=s) (i:=i) omg hsr
 all_goals first
  | (rw[if_pos omg] at hn;rw[Jzy hn];exact ⟨rfl,rfl⟩)
  | (rw[if_neg omg,if_pos omg] at hn;rw[Ud hn de];exact ⟨rfl,rfl⟩)
  | (rw[if_neg omg,if_neg omg,if_pos omg] at hn;rw[Jzy hn];exact ⟨rfl,rfl⟩)
  | (rw[if_neg omg,if_neg omg,if_neg omg] at hn;rw[Ud hn de];refine ⟨?_,rfl⟩;simp only;congr 1;omega)
def tk (s:List UInt8) (i:Nat):List UInt8×Nat:=if at_ s i=92 then escS (s.drop i) else ((s.drop i).take (rlen s i),rlen s i)
def uqF (s:List UInt8):Nat->Nat->List UInt8->List UInt8×Nat×Nat
 | 0,_,_=>([],s.length,1)
 | f+1,i,out=>if i<s.length then (if at_ s i=34 then (out,i+1,0) else if (tk s i).2=0\/at_ s i<32 then ([],i,1) else uqF s f (i+(tk s i).2) (out ++ (tk s i).1)) else ([],s.length,1)
def uq (s:List UInt8):List UInt8×Nat×Nat:=if s.length=0\/at_ s 0≠34 then ([],0,1) else uqF s (s.length+1) 1 []
theorem Jd0 (s:List UInt8):(escR s).2<=12/\(s.length<(escR s).2->(escR s).2=0):=by
 have key:∀ s:List UInt8,0<=u4 s->6<=s.length:=fun s h=>by
  unfold u4 at h;split at h
  ·rename_i h6;exact h6.1
  ·omega
 unfold escR;split
 ·exact ⟨by decide,fun _=>rfl⟩
 ·split
  ·exact ⟨by simp only;omega,fun h=>by simp only at h;omega⟩
  ·split
   ·exact ⟨by decide,fun _=>rfl⟩
   ·split
    ·exact ⟨by simp only;omega,fun h=>by have:=key s omg;simp only at h;omega⟩
    ·split
     ·exact ⟨by decide,fun _=>rfl⟩
     ·exact ⟨by simp only;omega,fun h=>by
       have h1:=key (s.drop 6) omg;rw[Ea5] at h1;simp only at h;omega⟩
theorem Jpb (s:List UInt8):(escS s).1.length<=4/\(escS s).2<=12/\(escS s).2<=s.length:=by
 have h:=Jd0 s;unfold escS;split
 ·exact ⟨by decide,by decide,Eau _⟩
 ·exact ⟨Od _,h.1,by rename_i hn;simp only;omega⟩
theorem tk_le (s:List UInt8) (i:Nat) (h:i<s.length):(tk s i).1.length<=4/\(tk s i).2<=12/\i+(tk s i).2<=s.length:=by
 unfold tk;split
 ·have h1:=Jpb (s.drop i);rw[Ea5] at h1;exact ⟨h1.1,h1.2.1,omg⟩
 ·have h1:=M4 s i h;have h2:=Qv s i;exact ⟨by simp;omega,by simp only;omega,h1⟩
theorem Kgt (s:List UInt8) (i:Nat) (hs:s.length<=1000000) (hi:i<s.length):Det cx 252 [.p (.str s),.p (.int .i64 i)] [] (.tup [.str (tk s i).1,.int .i64 (tk s i).2]) []:=by
 have h4:=Qv s i;have h5:=M4 s i hi;(refine bgo func252 ?_;simp only[go_sem,simprocAttr,wia (i:=i) (j:=rlen s i) omg omg]);(repeat'(first|(apply iteI<;>intro h)|refine Jqj ?_|((first|(refine Jqa (J84 s i hs hi) ?_)|(refine Jqa (Jkd s i hs hi) ?_));simp only[go_sem,simprocAttr,wia (i:=i) (j:=rlen s i) omg omg])|fail))
 ·unfold tk;rw[if_pos omg];exact ⟨rfl,rfl⟩
 ·unfold tk;rw[if_neg omg,Ec4];exact ⟨rfl,rfl⟩
theorem Jym (s:List UInt8) (hs:s.length<=1000000):Det cx 220 [.p (.str s)] [] (.tup [.str (uq s).1,.int .i64 (uq s).2.1,.int .i64 (uq s).2.2]) []:=by
 (refine bgo func220 ?_;simp only[go_sem,simprocAttr]);(repeat'(first|(apply iteI<;>intro h)|refine Jqj ?_|fail))
 ·unfold uq;rw[if_pos omg];exact ⟨rfl,rfl,rfl⟩
 ·unfold uq;rw[if_pos omg];exact ⟨rfl,rfl,rfl⟩
 have e:uq s=uqF s (s.length+1) 1 []:=by unfold uq;rw[if_neg omg]
 refine SWP.loop (fun x:Nat×Nat×List UInt8=>⟨Ba 50 [(0,.p (.str s)),(5,.p (.str x.2.2)),(6,.p (.int .i64 x.1))],[]⟩) (fun x=>1<=x.1/\x.1<=s.length/\s.length+1<=x.1+x.2.1/\x.2.2.length<=4 * x.1/\uqF s x.2.1 x.1 x.2.2=uq s) (fun x=>s.length - x.1) (1,s.length+1,[]) Jqc ⟨by simp,by simp only;omega,by simp,by simp,e.symm⟩ ?_;rintro ⟨i,f,out⟩ ⟨h0,h1,h2,h3,h4⟩;simp only at h0 h1 h2 h3 h4;obtain ⟨g,rfl⟩:∃ g,f=g+1:=⟨f - 1,omg⟩
 by_cases hlt:¬ i<s.length
 ·(refine lws ?_;simp only[go_sem,simprocAttr]);(repeat'(first|(apply iteI<;>intro h)|refine Jqj ?_|(exfalso;omega)));rw[<- h4,uqF,if_neg hlt];exact ⟨rfl,rfl,rfl⟩
 ·have hlt:=Ea9.1 hlt;have ht:=tk_le s i hlt;(refine lws ?_;simp only[go_sem,simprocAttr,wi1 (i:=i) omg,wia (i:=i) (j:=(tk s i).2) omg omg]);(repeat'(first|(apply iteI<;>intro h)|refine Jqj ?_|((refine Jqa (Kgt s i hs hlt) ?_);simp only[go_sem,simprocAttr,wi1 (i:=i) omg,wia (i:=i) (j:=(tk s i).2) omg omg])|(exfalso;omega)))
  ·rw[<- h4,uqF,if_pos hlt,if_pos omg];exact ⟨rfl,rfl,rfl⟩
  ·rw[<- h4,uqF,if_pos hlt,if_neg omg,if_pos omg];exact ⟨rfl,rfl,rfl⟩
  ·rw[<- h4,uqF,if_pos hlt,if_neg omg,if_pos omg];exact ⟨rfl,rfl,rfl⟩
  ·refine ⟨(i+(tk s i).2,g,out ++ (tk s i).1),⟨by simp only;omega,by simp only;omega,by simp only;omega,by simp only[Eac];omega,?_⟩,by simp only;omega,Jqc⟩;simp only;rw[<- h4,uqF,if_pos hlt,if_neg omg,if_neg omg]
theorem pre2 {s:List UInt8} (h:6<=s.length):s.take 2=[92,117] ↔ at_ s 0=92/\at_ s 1=117:=by
 match s,h with
 | a :: b :: t,_ =>
  simp only[Ebv,Eb7,Ec7,and_true,Gu,Jk0];constructor
  ·rintro ⟨rfl,rfl⟩;exact ⟨rfl,rfl⟩
  ·rintro ⟨h1,h2⟩;exact ⟨UInt8.toNat_inj.1 h1,UInt8.toNat_inj.1 h2⟩
theorem Fk (s:List UInt8) (hs:s.length<=1000000):Det cx 243 [.p (.str s)] [] (.p (.int .i64 (u4 s))) []:=by
 by_cases h6:s.length<6
 ·rw[show u4 s = -1 by unfold u4;rw[if_neg omg]];(refine bgo func243 ?_;simp only[go_sem,simprocAttr]);(repeat'(first|(apply iteI<;>intro h)|(exact True.intro)|(exfalso;omega)))
 have hT:((s.drop 2).take 4).length=4:=by simp;omega
 have hp:=Zn _ hT;have hca:=Sq _ hT;have hu:u4 s=if at_ s 0=92/\at_ s 1=117 then (match hexN ((s.drop 2).take 4) 0 with | some n=>(n:Int) | none=>-1) else -1:=by
  unfold u4;by_cases hq:at_ s 0=92/\at_ s 1=117
  ·rw[if_pos hq,if_pos ⟨omg,hq⟩]<;>rfl
  ·rw[if_neg hq,if_neg (fun h=>hq h.2)]
 have hmk:0<=iaF ((s.drop 2).take 4) 5 0->hexN ((s.drop 2).take 4) 0=none:=fun h=>by
  obtain ⟨k,h1,h2⟩:=Y5 _ _ _ h;exact S4 _ _ k h1 h2
 generalize hTT:(s.drop 2).take 4=T at *
 cases hx:hexN T 0 with
 | none =>
  rw[hx] at hp hu;simp only[Vk,ite_self] at hp hu;rw[hu];(refine bgo func243 ?_;simp only[go_sem,simprocAttr]);(repeat'(first|(apply iteI<;>intro h)|refine Jqj ?_|((first|(refine Jqa (Bj s _ hs de) ?_)|refine Jqa hca ?_|refine Jqa hp ?_);simp only[go_sem,simprocAttr,hTT])|(exact True.intro)))
  all_goals first
   | (rw[hu,if_neg (by rw[<- pre2 omg];assumption)])
   | (rw[hu,if_pos (by rw[<- pre2 omg];simp_all)])
 | some n =>
  have hia:¬ 0<=iaF T 5 0:=fun h=>by rw[hmk h] at hx;cases hx
  have hn:=We _ _ _ hx;rw[hT] at hn;have hwn:=wi0 (c:=n) omg;rw[hx] at hp hu;simp only[Vk] at hp hu;(refine bgo func243 ?_;simp only[go_sem,simprocAttr]);(repeat'(first|(apply iteI<;>intro h)|refine Jqj ?_|((first|(refine Jqa (Bj s _ hs de) ?_)|refine Jqa hca ?_|refine Jqa hp ?_);simp only[go_sem,simprocAttr,hTT,hTT,hwn])|(exfalso;omega)))
  all_goals first
   | (rw[hu,if_neg (by rw[<- pre2 omg];assumption)])
   | (rw[hu,if_pos (by rw[<- pre2 omg];simp_all)])
theorem Pf (c:Nat):(Hr c=none/\Cl (.int .u8 c) Ei 0=some none)\/∃ i r,Hr c=some r/\r<=92/\Cl (.int .u8 c) Ei 0=some (some (i,.int .i32 r)):=by
 have key:∀ (b:Int) (v:PV) (es:List (PV×PV)) (i:Nat),Cl (.int .u8 c) ((.int .u8 b,v) :: es) i=if (c:Int)=b then some (some (i,v)) else Cl (.int .u8 c) es (i+1):=fun b v es i=>by
  by_cases h:(c:Int)=b
  ·simp[Cl,Lc,h]
  ·have:((c:Int) == b)=false:=by simp[h]
   simp[Cl,Lc,this,h]
 unfold Hr Ei;simp only[key];have hc:∀ b:Nat,((c:Int)=(b:Int))=(c=b):=fun b=>by apply propext;omega
 have e1:=hc 34;have e2:=hc 92;have e3:=hc 47;have e4:=hc 98;have e5:=hc 102;have e6:=hc 110;have e7:=hc 114;have e8:=hc 116;simp only[Int.cast_ofNat_Int] at e1 e2 e3 e4 e5 e6 e7 e8;simp only[e1,e2,e3,e4,e5,e6,e7,e8];by_cases h1:c=34
 ·exact .inr ⟨0,34,by simp[h1],by decide,by simp[h1]⟩
 by_cases h2:c=92
 ·exact .inr ⟨1,92,by simp[h2],by decide,by simp[h2]⟩
 by_cases h3:c=47
 ·exact .inr ⟨2,47,by simp[h3],by decide,by simp[h3]⟩
 by_cases h4:c=98
 ·exact .inr ⟨3,8,by simp[h4],by decide,by simp[h4]⟩
 by_cases h5:c=102
 ·exact .inr ⟨4,12,by simp[h5],by decide,by simp[h5]⟩
 by_cases h6:c=110
 ·exact .inr ⟨5,10,by simp[h6],by decide,by simp[h6]⟩
 by_cases h7:c=114
 ·exact .inr ⟨6,13,by simp[h7],by decide,by simp[h7]⟩
 by_cases h8:c=116
 ·exact .inr ⟨7,9,by simp[h8],by decide,by simp[h8]⟩
 ·refine .inl ⟨by simp[*],?_⟩;rw[if_neg h1,if_neg h2,if_neg h3,if_neg h4,if_neg h5,if_neg h6,if_neg h7,if_neg h8];rfl
theorem u4_six {s:List UInt8} (h:0<=u4 s):6<=s.length:=by
 unfold u4 at h;split at h
 ·rename_i h6;exact h6.1
 ·omega
theorem Mv (s:List UInt8) (hs:s.length<=1000000):Det cx 211 [.p (.str s)] [] (.tup [.int .i32 (escR s).1,.int .i64 (escR s).2]) []:=by
 obtain ⟨hu1,hu2⟩:=Jee s;obtain ⟨hv1,hv2⟩:=Jee (s.drop 6);have hB:=Fr s 1;have h66:0<=u4 s->6<=s.length:=u4_six;rcases (Pf (at_ s 1)).symm with ⟨i,r,hsr,hr,hmf⟩ | ⟨hsr,hmf⟩
 ·(refine bgo func211 ?_;simp only[go_sem,simprocAttr]);(repeat'(first|(apply iteI<;>intro h)|refine Jqj ?_|((first|refine Jqm ?_|refine Jqb Kl ?_);simp only[go_sem,simprocAttr,hmf])|fail))
  ·unfold escR;rw[if_pos omg];exact ⟨rfl,rfl⟩
  ·unfold escR;rw[if_neg omg,hsr];exact ⟨rfl,rfl⟩
 ·have z0:=Qs (n:=u4 s) omg omg;have z1:=Aa (n:=u4 s - 55296) omg omg;have z2:IntKind.i64.wrap ((u4 s - 55296) * 2 ^ min 10 (B0 .i64))=(u4 s - 55296) * 1024:=Aa (n:=(u4 s - 55296) * 1024) omg omg;have z3:=Aa (n:=65536+(u4 s - 55296) * 1024) omg omg;have z4:=Aa (n:=65536+(u4 s - 55296) * 1024+u4 (s.drop 6)) omg omg;have z5:=Aa (n:=65536+(u4 s - 55296) * 1024+u4 (s.drop 6) - 56320) omg omg;have z6:=Qs (n:=65536+(u4 s - 55296) * 1024+u4 (s.drop 6) - 56320) omg omg;(refine bgo func211 ?_;simp only[go_sem,simprocAttr]);(repeat'(first|(apply iteI<;>intro h)|refine Jqj ?_|((first|refine Jqm ?_|refine Jqb Kl ?_|(refine Jqa (Fk _ hs) ?_)|(refine Jqa (Fk (s.drop 6) (by simp;omega)) ?_));simp only[go_sem,simprocAttr,hmf,hmf,z0,z1,z2,z3,z4,z5,z6])|(exfalso;omega)))
  ·unfold escR;rw[if_pos omg];exact ⟨rfl,rfl⟩
  all_goals((unfold escR;rw[if_neg omg,hsr];simp only)<;>((repeat' split)<;>first|(exfalso;omega)|(exact ⟨rfl,rfl⟩)|(refine ⟨?_,rfl⟩;simp only;omega)))
theorem Gq {s:List UInt8} {i:Nat} (h:rlen s i≠0):(code s i<128 ↔ at_ s i<128)/\(at_ s i<128->code s i=at_ s i):=by
 have h0:=Fr s i;rcases Fd s i with e | ⟨e,g1⟩ | ⟨e,g1,g2,g3⟩ | ⟨e,g1,g2,g3,g4,g5,g6⟩ | ⟨e,g1,g2,g3,g4,g5,g6,g7⟩
 ·exact absurd e h
 ·have ec:code s i=at_ s i:=by unfold code;rw[if_pos g1]
  omega
 ·have ec:code s i=at_ s i % 32 * 64+at_ s (i+1) % 64:=by unfold code;rw[if_neg omg,if_pos omg]
  omega
 ·have ec:code s i=at_ s i % 16 * 4096+at_ s (i+1) % 64 * 64+at_ s (i+2) % 64:=by unfold code;rw[if_neg omg,if_neg omg,if_pos omg]
  omega
 ·have ec:code s i=at_ s i % 8 * 262144+at_ s (i+1) % 64 * 4096+at_ s (i+2) % 64 * 64+at_ s (i+3) % 64:=by unfold code;rw[if_neg omg,if_neg omg,if_neg omg]
  omega
theorem Q4 {s:List UInt8} {i:Nat}:rlen s i=1 ↔ at_ s i<128:=by
 rcases Fd s i with e | ⟨e,g1⟩ | ⟨e,g1,g2,g3⟩ | ⟨e,g1,g2,g3,g4,g5,g6⟩ | ⟨e,g1,g2,g3,g4,g5,g6,g7⟩
 ·constructor
  ·omega
  ·intro h;unfold rlen at e;rw[if_pos h] at e;cases e
 all_goals omega
theorem Jgy {s:List UInt8} {i:Nat} (h:i<s.length) (hr:rlen s i=0):K3 (s.drop i)=(65533,1):=by
 unfold K3;rw[if_neg (by rw[Ea5];omega),Qy,Nat.add_zero,Kkb,if_pos hr]
theorem Jcl {s:List UInt8} {i:Nat} (h:i<s.length) (hr:rlen s i≠0):K3 (s.drop i)=(code s i,rlen s i):=by
 unfold K3;rw[if_neg (by rw[Ea5];omega),Qy,Nat.add_zero,Kkb,if_neg hr]
theorem O6 {s:List UInt8} (h:(escR s).2≠0):Cy (escR s).1:=by
 have h1:=Jee s;have h2:=Jee (s.drop 6);unfold escR at h ⊢;unfold Cy;split at h
 ·exact absurd rfl h
 ·rename_i hl;rw[if_neg hl];split at h
  ·rename_i r hr;have:r<=92:=by rcases Pf (at_ s 1) with ⟨e,_⟩ | ⟨i,r',e,hr',_⟩<;>rw[hr] at e<;>cases e;exact hr'
   simp only;omega
  ·split at h
   ·exact absurd rfl h
   ·rename_i g1;rw[if_neg g1];split at h
    ·rename_i g2;rw[if_pos g2];simp only;omega
    ·rename_i g2;rw[if_neg g2];split at h
     ·exact absurd rfl h
     ·rename_i g3;rw[if_neg g3];simp only;omega
theorem I4 (r:Int):1<=(utf r).length:=by
 rw[D6];unfold utfC
 repeat' split
 all_goals simp
def uqSt (i:Nat) (s:List UInt8):List UInt8->St
 | []=>⟨Ba 60 [(0,.p (.str s)),(5,.ptr 5 0 0),(6,.p (.int .i64 i))],[(5,.var 206 [.p .nptr,.p .snil])]⟩
 | c :: t=>⟨Ba 60 [(0,.p (.str s)),(5,.ptr 5 0 0),(6,.p (.int .i64 i))],[(54,.row 5 1 (bstr (c :: t))),(5,.var 206 [.ptr 5 0 0,.own 54 0 (c :: t).length])]⟩
theorem Ik {i:Nat} {s out:List UInt8} (h:out≠[]):uqSt i s out=⟨Ba 60 [(0,.p (.str s)),(5,.ptr 5 0 0),(6,.p (.int .i64 i))],[(54,.row 5 1 (bstr out)),(5,.var 206 [.ptr 5 0 0,.own 54 0 out.length])]⟩:=by
 cases out with
 | nil=>exact absurd rfl h
 | cons c t=>rfl
theorem Rm {i:Nat} {s:List UInt8}:uqSt i s []=⟨Ba 60 [(0,.p (.str s)),(5,.ptr 5 0 0),(6,.p (.int .i64 i))],[(5,.var 206 [.p .nptr,.p .snil])]⟩:=rfl
theorem pre1 {s:List UInt8}:s.take 1=[34] ↔ ¬ (s.length=0\/at_ s 0≠34):=by
 match s with
 | []=>simp
 | a :: t =>
  simp only[Ebv,Eb7,Ec7,and_true,Gu,Ead];constructor
  ·rintro rfl;simp
  ·intro h;exact UInt8.toNat_inj.1 (by simp at h ⊢;exact h)
theorem Ts (s:List UInt8) (hs:s.length<=1000000):Det cx 186 [.p (.str s)] [] (.tup [.str (uq s).1,.int .i64 (uq s).2.1,.int .i64 (uq s).2.2]) []:=by
 (refine bgo func186 ?_;simp only[go_sem,simprocAttr]);(repeat'(first|(apply iteI<;>intro h)|((refine Jqa (Bj s _ hs de) ?_);simp only[go_sem,simprocAttr])|fail))
 ·unfold uq;rw[if_pos (by rw[pre1] at *;exact Ea9.1 (by assumption))];exact ⟨rfl,rfl,rfl⟩
 have hp:¬ (s.length=0\/at_ s 0≠34):=pre1.1 (Ea9.1 (by assumption));have e:uq s=uqF s (s.length+1) 1 []:=by unfold uq;rw[if_neg hp]
 refine SWP.loop (fun x:Nat×Nat×List UInt8=>uqSt x.1 s x.2.2) (fun x=>1<=x.1/\x.1<=s.length/\s.length+1<=x.1+x.2.1/\x.2.2.length<=4 * x.1/\uqF s x.2.1 x.1 x.2.2=uq s) (fun x=>s.length - x.1) (1,s.length+1,[]) Jqc ⟨by simp,by simp only;omega,by simp,by simp,e.symm⟩ ?_;rintro ⟨i,f,out⟩ ⟨h0,h1,h2,h3,h4⟩;simp only at h0 h1 h2 h3 h4;obtain ⟨g,rfl⟩:∃ g,f=g+1:=⟨f - 1,omg⟩
 show SWP _ _ _ _ (uqSt i s out);by_cases hlt:¬ i<s.length
 ·rw[uqF,if_neg hlt] at h4;by_cases hne:out=[]
  ·subst hne;rw[Rm];(refine lws ?_;simp only[go_sem,simprocAttr]);(repeat'(first|(apply iteI<;>intro h)|refine Jqj ?_|(exfalso;omega)));rw[<- h4];exact ⟨rfl,rfl,rfl⟩
  ·rw[Ik hne];(refine lws ?_;simp only[go_sem,simprocAttr]);(repeat'(first|(apply iteI<;>intro h)|refine Jqj ?_|(exfalso;omega)));rw[<- h4];exact ⟨rfl,rfl,rfl⟩
 ·have hlt:=Ea9.1 hlt;have ht:=tk_le s i hlt;rw[uqF,if_pos hlt] at h4;by_cases hr:rlen s i=0
  ·have hd:=Jgy hlt hr;have ha:128<=at_ s i:=Nat.le_of_not_lt fun h=>by rw[Q4.2 h] at hr;cases hr
   have h5:(tk s i).2=0:=by unfold tk;rw[if_neg omg];exact hr
   rw[if_neg omg,if_pos (.inl h5)] at h4;by_cases hne:out=[]
   ·subst hne;rw[Rm];(refine lws ?_;simp only[go_sem,simprocAttr]);(repeat'(first|(apply iteI<;>intro h)|refine Jqj ?_|((refine Jqa (C4 _) ?_);simp only[go_sem,simprocAttr,hd])|(exfalso;omega)));rw[<- h4];exact ⟨rfl,rfl,rfl⟩
   ·rw[Ik hne];(refine lws ?_;simp only[go_sem,simprocAttr]);(repeat'(first|(apply iteI<;>intro h)|refine Jqj ?_|((refine Jqa (C4 _) ?_);simp only[go_sem,simprocAttr,hd])|(exfalso;omega)));rw[<- h4];exact ⟨rfl,rfl,rfl⟩
  ·have hd:=Jcl hlt hr;have hc:=Gq hr;have hone:rlen s i=1 ↔ at_ s i<128:=Q4;have hR:=Fm hr;unfold Cy at hR;have hE:(escR (s.drop i)).2≠0->0<=(escR (s.drop i)).1/\(escR (s.drop i)).1<=1114111:=fun h=>by
    have:=O6 h;unfold Cy at this;omega
   have hEl:=Jd0 (s.drop i);have h4r:=Qv s i;have hT9:at_ s i=92->(escR (s.drop i)).2≠0->tk s i=(utf (escR (s.drop i)).1,(escR (s.drop i)).2):=fun h h'=>by
    unfold tk;rw[if_pos h];unfold escS;rw[if_neg h']
   have hT0:at_ s i=92->(escR (s.drop i)).2=0->(tk s i).2=0:=fun h h'=>by
    unfold tk;rw[if_pos h];unfold escS;rw[if_pos h']
   have hTn:at_ s i≠92->tk s i=(utf (code s i),rlen s i):=fun h=>by
    unfold tk;rw[if_neg h,H5 hr hlt]
   have hu1:=I4 (code s i);have hu2:=I4 (escR (s.drop i)).1;have hnn:∀ r,out ++ utf r≠[]:=fun r h=>by have:=I4 r;rw[(List.append_eq_nil_iff.1 h).2] at this;simp at this
   by_cases hne:out=[]
   ·subst hne;rw[Rm];(refine lws ?_;simp only[go_sem,simprocAttr,wi1 (i:=i) omg,wia (i:=i) (j:=rlen s i) omg omg,wia (i:=i) (j:=(escR (s.drop i)).2) omg omg]);(repeat'(first|(apply iteI<;>intro h)|refine Jqj ?_|((first|(refine Jqa (C4 _) ?_)|refine Jqa Fa ?_|(refine Jqa (Mv _ (by rw[Ea5];omega)) ?_)|(refine Jqa (Hb _ omg omg) ?_));simp only[go_sem,simprocAttr,hd,wi1 (i:=i) omg,wia (i:=i) (j:=rlen s i) omg omg,wia (i:=i) (j:=(escR (s.drop i)).2) omg omg])|(exfalso;omega)))
    all_goals first
     | (rw[if_pos omg] at h4;rw[<- h4];exact ⟨rfl,rfl,rfl⟩)
     | (rw[if_neg omg,if_pos (.inl (hT0 omg omg))] at h4;rw[<- h4];exact ⟨rfl,rfl,rfl⟩)
     | (rw[if_neg omg,if_pos (.inr omg)] at h4;rw[<- h4];exact ⟨rfl,rfl,rfl⟩)
     | (
      have hT:=hTn omg;rw[hT] at h4 ht;simp only at h4 ht;rw[if_neg omg,if_neg omg] at h4;refine ⟨(i+rlen s i,g,[] ++ utf (code s i)),⟨by simp only;omega,by simp only;omega,by simp only;omega,by simp only[Eac,Ea8];omega,h4⟩,by simp only;omega,?_⟩;simp only;rw[Ik (hnn _)];exact Jqc)
     | (
      have hT:=hT9 omg omg;rw[hT] at h4 ht;simp only at h4 ht;rw[if_neg omg,if_neg omg] at h4;refine ⟨(i+(escR (s.drop i)).2,g,[] ++ utf (escR (s.drop i)).1),⟨by simp only;omega,by simp only;omega,by simp only;omega,by simp only[Eac,Ea8];omega,h4⟩,by simp only;omega,?_⟩;simp only;rw[Ik (hnn _)];exact Jqc)
   ·have hl0:out.length≠0:=fun h=>hne (Ean h)
    rw[Ik hne];(refine lws ?_;simp only[go_sem,simprocAttr,wi1 (i:=i) omg,wia (i:=i) (j:=rlen s i) omg omg,wia (i:=i) (j:=(escR (s.drop i)).2) omg omg]);(repeat'(first|(apply iteI<;>intro h)|refine Jqj ?_|((first|(refine Jqa (C4 _) ?_)|(refine Jqa (Eo out _ rfl omg hl0) ?_)|(refine Jqa (Mv _ (by rw[Ea5];omega)) ?_)|(refine Jqa (Ed _ _ _ (Di _) omg omg omg) ?_));simp only[go_sem,simprocAttr,hd,wi1 (i:=i) omg,wia (i:=i) (j:=rlen s i) omg omg,wia (i:=i) (j:=(escR (s.drop i)).2) omg omg])|(exfalso;omega)))
    all_goals first
     | (rw[if_pos omg] at h4;rw[<- h4];exact ⟨rfl,rfl,rfl⟩)
     | (rw[if_neg omg,if_pos (.inl (hT0 omg omg))] at h4;rw[<- h4];exact ⟨rfl,rfl,rfl⟩)
     | (rw[if_neg omg,if_pos (.inr omg)] at h4;rw[<- h4];exact ⟨rfl,rfl,rfl⟩)
     | (
      have hT:=hTn omg;rw[hT] at h4 ht;simp only at h4 ht;rw[if_neg omg,if_neg omg] at h4;refine ⟨(i+rlen s i,g,out ++ utf (code s i)),⟨by simp only;omega,by simp only;omega,by simp only;omega,by simp only[Eac];omega,h4⟩,by simp only;omega,?_⟩;simp only;rw[Ik (hnn _),Gz,Eac];exact Jqc)
     | (
      have hT:=hT9 omg omg;rw[hT] at h4 ht;simp only at h4 ht;rw[if_neg omg,if_neg omg] at h4;refine ⟨(i+(escR (s.drop i)).2,g,out ++ utf (escR (s.drop i)).1),⟨by simp only;omega,by simp only;omega,by simp only;omega,by simp only[Eac];omega,h4⟩,by simp only;omega,?_⟩;simp only;rw[Ik (hnn _),Gz,Eac];exact Jqc)
theorem Uz {s:List UInt8} {i:Nat} (h:rlen s i≠0) (hi:i<s.length):(utf (code s i)).length=rlen s i:=by
 have h1:=M4 s i hi;rw[H5 h hi];simp;omega
def letR (r:Int):Option Nat :=
 if r=34 then some 34 else if r=92 then some 92 else if r=8 then some 98 else if r=12 then some 102 else if r=10 then some 110 else if r=13 then some 114 else if r=9 then some 116 else none
def letN:Nat->Nat
 | 0=>34 | 1=>92 | 2=>47 | 3=>8 | 4=>12 | 5=>10 | 6=>13 | 7=>9 | _=>0
theorem M9 {i:Nat} {p:PV×PV} (h:Ei[i]? = some p):i<8/\∃ c r:Nat,p=(.int .u8 c,.int .i32 r):=by
 have hl:=(Eab.1 h).1;have h8:i<8:=hl;refine ⟨h8,?_⟩;have key:∀ j:Fin 8,∃ c r:Nat,Ei[j.val]? = some (.int .u8 c,.int .i32 r):=by
  intro j
  match j with
  | ⟨0,_⟩=>exact ⟨34,34,rfl⟩
  | ⟨1,_⟩=>exact ⟨92,92,rfl⟩
  | ⟨2,_⟩=>exact ⟨47,47,rfl⟩
  | ⟨3,_⟩=>exact ⟨98,8,rfl⟩
  | ⟨4,_⟩=>exact ⟨102,12,rfl⟩
  | ⟨5,_⟩=>exact ⟨110,10,rfl⟩
  | ⟨6,_⟩=>exact ⟨114,13,rfl⟩
  | ⟨7,_⟩=>exact ⟨116,9,rfl⟩
 obtain ⟨c,r,hk⟩:=key ⟨i,h8⟩;rw[hk] at h;exact ⟨c,r,(Ebd h).symm⟩
theorem Jge {i j:Nat} {v w k:PV} (hi:Ei[i]? = some (v,k)) (hj:Ei[j]? = some (w,k)):i=j:=by
 obtain ⟨h1,a,r,e1⟩:=M9 hi;obtain ⟨h2,b,q,e2⟩:=M9 hj;obtain ⟨rfl,rfl⟩:=Edk e1;obtain ⟨rfl,e3⟩:=Edk e2;have hrq:r=q:=by injection e3 with _ h;omega
 subst hrq;have key:∀ i j:Fin 8,∀ a b r:Nat,Ei[i.val]? = some (.int .u8 a,.int .i32 r)->Ei[j.val]? = some (.int .u8 b,.int .i32 r)->(letN i.val=r/\letN j.val=r):=by
  intro i j a b r hi hj;have f:∀ k:Fin 8,∀ c q:Nat,Ei[k.val]? = some (.int .u8 c,.int .i32 q)->letN k.val=q:=by
   intro k c q h
   match k,h with
   | ⟨0,_⟩,h=>cases h;rfl
   | ⟨1,_⟩,h=>cases h;rfl
   | ⟨2,_⟩,h=>cases h;rfl
   | ⟨3,_⟩,h=>cases h;rfl
   | ⟨4,_⟩,h=>cases h;rfl
   | ⟨5,_⟩,h=>cases h;rfl
   | ⟨6,_⟩,h=>cases h;rfl
   | ⟨7,_⟩,h=>cases h;rfl
  exact ⟨f i a r hi,f j b r hj⟩
 obtain ⟨k1,k2⟩:=key ⟨i,h1⟩ ⟨j,h2⟩ a b r hi hj;have inj:∀ i j:Fin 8,letN i.val=letN j.val->i=j:=by decide
 exact congrArg Fin.val (inj ⟨i,h1⟩ ⟨j,h2⟩ (k1.trans k2.symm))
theorem Jb8 {i:Nat} {v:PV} {r:Int} (h:Ei[i]? = some (v,.int .i32 r)):r=34\/r=92\/r=47\/r=8\/r=12\/r=10\/r=13\/r=9:=by
 obtain ⟨h8,_⟩:=M9 h;have f:∀ k:Fin 8,Ei[k.val]? = some (v,.int .i32 r)->r=34\/r=92\/r=47\/r=8\/r=12\/r=10\/r=13\/r=9:=by
  intro k h
  match k,h with
  | ⟨0,_⟩,h=>cases h;simp
  | ⟨1,_⟩,h=>cases h;simp
  | ⟨2,_⟩,h=>cases h;simp
  | ⟨3,_⟩,h=>cases h;simp
  | ⟨4,_⟩,h=>cases h;simp
  | ⟨5,_⟩,h=>cases h;simp
  | ⟨6,_⟩,h=>cases h;simp
  | ⟨7,_⟩,h=>cases h;simp
 exact f ⟨i,h8⟩ h
def LetMap (es:List (PV×PV)):Prop:=∀ r:Int,(letR r=none/\Cl (.int .i32 r) es 0=some none)\/∃ i c,letR r=some c/\c<=116/\Cl (.int .i32 r) es 0=some (some (i,.int .u8 c))
theorem Jfl:Al cx 213 [] [] (fun m q=>q=[]/\∃ es,m=.p (.mp es)/\LetMap es):=by
 (refine bgo func213 ?_;simp only[go_sem,simprocAttr]);(repeat'(first|((refine Jqa Kl ?_);simp only[go_sem,simprocAttr])|fail));refine SWP.loop (fun x:List (PV×PV)×List Nat=>⟨Ba 17 [(1,.mref 4),(6,.ptr 6 0 0)],[(6,.obj (.mit Ei x.2)),(4,.obj (.mp x.1))]⟩) (fun x=>MapF (Z5 .i32) x.1/\∀ k v,(k,v)∈x.1 ↔ ∃ i∈x.2,Ei[i]? = some (v,k)) (fun x=>Jo x.2 8) ([],[]) Jqc ⟨MapF.nil,by simp⟩ ?_;rintro ⟨es,seen⟩ ⟨h1,h2⟩;simp only at h1 h2;(refine lws ?_;simp only[go_sem,simprocAttr]);refine ⟨fun j p hj hns=>?_,fun hall=>?_⟩
 ·obtain ⟨h8,c,r,rfl⟩:=M9 hj;refine ⟨_,hj,?_⟩;obtain ⟨es',e1,g1,g2⟩:=Jhy (v:=.int .u8 c) (P1 .i32) (k:=.int .i32 r) ⟨_,rfl⟩ h1;simp only[go_sem,simprocAttr,e1];refine ⟨(es',seen ++ [j]),⟨g1,fun k v=>?_⟩,S9 hns h8,Jqc⟩;rw[g2];constructor
  ·rintro (⟨rfl,rfl⟩ | ⟨_,hm⟩)
   ·exact ⟨j,by simp,hj⟩
   ·obtain ⟨i,hi,he⟩:=(h2 k v).1 hm;exact ⟨i,by simp[hi],he⟩
  ·rintro ⟨i,hi,he⟩;rw[Eax,Ea0] at hi;rcases hi with hi | rfl
   ·refine .inr ⟨fun hk=>?_,(h2 k v).2 ⟨i,hi,he⟩⟩;subst hk;have:=Jge he hj;subst this;exact hns hi
   ·rw[hj] at he;have:=Edk (Ebd he);exact .inl ⟨this.2.symm,this.1.symm⟩
 ·obtain ⟨es',e1,g1,g2⟩:=Jer (P1 .i32) (k:=.int .i32 47) ⟨_,rfl⟩ h1;simp only[go_sem,simprocAttr,e1,e1];refine ⟨es',rfl,fun r=>?_⟩;have inn:∀ (i:Nat) (c r:Int),Ei[i]? = some (.int .u8 c,.int .i32 r)->r≠47->∃ j,Cl (.int .i32 r) es' 0=some (some (j,.int .u8 c)):=fun i c r hi hr =>
   Jkm (P1 .i32) g1 ((g2 _ _).2 ⟨fun e=>hr (by injection e),(h2 _ _).2 ⟨i,hall i (Eab.1 hi).1,hi⟩⟩)
  unfold letR;by_cases c1:r=34
  ·subst c1;obtain ⟨j,hj⟩:=inn 0 34 34 rfl de;exact .inr ⟨j,34,rfl,by decide,hj⟩
  by_cases c2:r=92
  ·subst c2;obtain ⟨j,hj⟩:=inn 1 92 92 rfl de;exact .inr ⟨j,92,rfl,by decide,hj⟩
  by_cases c3:r=8
  ·subst c3;obtain ⟨j,hj⟩:=inn 3 98 8 rfl de;exact .inr ⟨j,98,rfl,by decide,hj⟩
  by_cases c4:r=12
  ·subst c4;obtain ⟨j,hj⟩:=inn 4 102 12 rfl de;exact .inr ⟨j,102,rfl,by decide,hj⟩
  by_cases c5:r=10
  ·subst c5;obtain ⟨j,hj⟩:=inn 5 110 10 rfl de;exact .inr ⟨j,110,rfl,by decide,hj⟩
  by_cases c6:r=13
  ·subst c6;obtain ⟨j,hj⟩:=inn 6 114 13 rfl de;exact .inr ⟨j,114,rfl,by decide,hj⟩
  by_cases c7:r=9
  ·subst c7;obtain ⟨j,hj⟩:=inn 7 116 9 rfl de;exact .inr ⟨j,116,rfl,by decide,hj⟩
  refine .inl ⟨by simp[*],Jep (P1 .i32) ⟨_,rfl⟩ g1 fun v hv=>?_⟩;obtain ⟨hne,hm⟩:=(g2 _ _).1 hv;obtain ⟨i,_,hi⟩:=(h2 _ _).1 hm;have h47:r≠47:=fun e=>hne (by rw[e])
  have:=Jb8 hi;omega
theorem Jdx (a b:List UInt8):wrs (a ++ b)=wrs a ++ wrs b:=by simp[wrs]
def qr (r:Int):List UInt8:=match letR r with
 | some c=>[92,UInt8.ofNat c]
 | none=>if r<32 then [92,117,48,48] ++ (hex3 (r.toNat+256)).drop 1 else utf r
theorem Joz {c:Nat} (h:128<=c):wr c=[UInt8.ofNat c]:=by
 unfold wr;rw[if_neg omg,if_neg omg,if_neg omg,if_neg omg,if_neg omg,if_neg omg,if_neg omg,if_neg omg]
theorem wr_low {c:Nat} (h:c<128):wr c=qr c:=by
 have key:∀ m:Fin 128,wr m.val=qr m.val:=by decide
 exact key ⟨c,h⟩
theorem Ze:∀ l:List UInt8,(∀ c∈l,128<=c.toNat)->wrs l=l
 | [],_=>rfl
 | c :: l,h=>by
  show wr c.toNat ++ wrs l=c :: l;rw[Joz (h c Eaf),Ze l fun d hd=>h d (Eai _ hd)];simp
theorem Jfh {r:Int} (h:93<=r):letR r=none:=by
 unfold letR;rw[if_neg omg,if_neg omg,if_neg omg,if_neg omg,if_neg omg,if_neg omg,if_neg omg]
theorem Yx {s:List UInt8} {i:Nat} (h:rlen s i≠0) (hi:i<s.length):wrs ((s.drop i).take (rlen s i))=qr (code s i):=by
 by_cases h1:at_ s i<128
 ·rw[Q4.2 h1,(Gq h).2 h1,<- wr_low h1];rw[Eaz hi,Ebv,Eb7];show wr s[i].toNat ++ []=wr (at_ s i);rw[Eaw,Ql hi]
 ·have hc:128<=code s i:=by have:=(Gq h).1;omega
  have e:qr (code s i)=utf (code s i):=by
   unfold qr;rw[Jfh omg];simp only;rw[if_neg omg]
  rw[e,H5 h hi];apply Ze;intro c hm;rw[<- H5 h hi] at hm;obtain ⟨x,hx,rfl⟩:=Eap.1 hm;have hx2:128<=x/\x<256:=by
   revert hx;unfold utfC;rw[if_neg omg]
   repeat' split
   all_goals (simp;try omega)
  have:=B8 (c:=x) omg omg;omega
theorem K4 (es:List (List PV)) (s:List UInt8) (n:Nat) (he:es=bstr s) (hn:s.length=n) (h1:n<=1000000000) (h0:n≠0):Det cx 210 [.ptr 1000 0 0] [(500001,.row 5 1 es),(1000,.var 206 [.ptr 1000 0 0,.own 500001 0 n])] (.p (.str s)) [(1000,.var 206 [.ptr 1000 0 0,.junk])]:=by
 subst he;exact Eo s n hn h1 h0
@[simp] theorem bstr_34:bstr [34]=[[.int .u8 34]]:=rfl
theorem Jik (u:Nat):(hex3 u).length=3:=rfl
theorem Kt (s:List UInt8) (hs:s.length<=1000000) (hv:valid s=true):Det cx 188 [.p (.str s)] [] (.p (.str (refQ s))) []:=by
 (refine bgo func188 ?_;simp only[go_sem,simprocAttr]);refine Jfl.mono fun m q hm'=>?_
 obtain ⟨rfl,es,rfl,hL⟩:=hm';simp only[go_sem,simprocAttr];(repeat'(first|((refine Jqa (Hc 34) ?_);simp only[go_sem,simprocAttr])|fail));refine SWP.loop (fun x:Nat×Nat=>⟨Ba 41 [(0,.p (.str s)),(3,.ptr 3 0 0),(4,.p (.mp es)),(12,.ptr 12 0 0)],[(12,.obj (.sit s x.1)),(10,.row 5 1 (bstr (34 :: wrs (s.take x.1)))),(3,.var 206 [.ptr 3 0 0,.own 10 0 (34 :: wrs (s.take x.1)).length])]⟩) (fun x=>x.1<=s.length/\s.length+1<=x.1+x.2/\vF s x.2 x.1=true) (fun x=>s.length - x.1) (0,s.length+1) Jqc ⟨by simp,by simp,hv⟩ ?_;rintro ⟨i,f⟩ ⟨h1,h2,h3⟩;simp only at h1 h2 h3;obtain ⟨g,rfl⟩:∃ g,f=g+1:=⟨f - 1,omg⟩
 have hw:=Jlg (s.take i);have hl:(s.take i).length<=s.length:=List.length_take_le' ..
 rw[vF] at h3;by_cases hlt:¬ i<s.length
 ·have ht:s.take i=s:=Eae omg;rw[ht] at hw ⊢;(refine lws ?_;simp only[go_sem,simprocAttr,H6]);(repeat'(first|(apply iteI<;>intro h)|((first|(refine Jqa (Eb 34 _ _ (Di _) (by simp;omega)) ?_)|(refine Jqa (K4 _ (34 :: wrs s ++ [34]) _ (by simp[bstr]) sm (by simp;omega) sm) ?_));simp only[go_sem,simprocAttr])|(exfalso;omega)));rfl
 have hlt:=Ea9.1 hlt;rw[if_pos hlt] at h3;have hd:=Kkb s i;have hrl:=M4 s i hlt;by_cases hr:rlen s i=0
 ·rw[if_pos hr] at h3;cases h3
 rw[if_neg hr] at h3 hd;have hR:=Fm hr;unfold Cy at hR;have hq:wrs (s.take (i+rlen s i))=wrs (s.take i) ++ qr (code s i):=by
  rw[List.take_add,Jdx,Yx hr hlt]
 have hw0:=wi0 (c:=code s i) omg;have hw1:IntKind.i64.wrap ((code s i:Int)+256)=((code s i+256:Nat):Int):=by rw[Aa omg omg];omega
 rcases hL (code s i) with ⟨hlr,hmf⟩ | ⟨j,c,hlr,hc,hmf⟩
 ·(refine lws ?_;simp only[go_sem,simprocAttr,H6,hd,hmf]);(repeat'(first|(apply iteI<;>intro h)|((first|(refine Jqa (Bx _ _ _ (by simp[bstr]) (by simp;omega) (by simp[hex3])) ?_)|(refine Jqa (Ph (code s i+256) omg omg) ?_)|(refine Jqa (Ed _ _ _ (Di _) (by simp;omega) omg omg) ?_));simp only[go_sem,simprocAttr,hw0,hw1,Jik])|(exfalso;omega)))
  ·have hqr:qr (code s i)=[92,117,48,48] ++ (hex3 (code s i+256)).drop 1:=by
    unfold qr;rw[hlr];simp only;rw[if_pos omg];rfl
   have hrow:bstr (34 :: wrs (s.take (i+rlen s i)))=bstr (34 :: wrs (s.take i)) ++ bstr [92,117,48,48] ++ bstr ((hex3 (code s i+256)).drop 1):=by
    rw[hq,hqr,<- Ebh,Gz,Gz,Ea2]
   have hlen:(wrs (s.take (i+rlen s i))).length+1=(wrs (s.take i)).length+1+4+((hex3 (code s i+256)).drop 1).length:=by rw[hq,hqr];simp[hex3]
   refine ⟨(i+rlen s i,g),⟨by simp only;omega,by simp only;omega,h3⟩,by simp only;omega,?_⟩;simp only[Ead];rw[hrow,hlen];exact Jqc
  ·have hqr:qr (code s i)=utf (code s i):=by
    unfold qr;rw[hlr];simp only;rw[if_neg omg]
   have hrow:bstr (34 :: wrs (s.take (i+rlen s i)))=bstr (34 :: wrs (s.take i)) ++ bstr (utf (code s i)):=by
    rw[hq,hqr,<- Ebh,Gz]
   have hlen:(wrs (s.take (i+rlen s i))).length+1=(wrs (s.take i)).length+1+(utf (code s i)).length:=by rw[hq,hqr];simp;omega
   refine ⟨(i+rlen s i,g),⟨by simp only;omega,by simp only;omega,h3⟩,by simp only;omega,?_⟩;simp only[Ead];rw[hrow,hlen];exact Jqc
 ·(refine lws ?_;simp only[go_sem,simprocAttr,H6,hd,hmf,hd,hmf]);(repeat'(first|(apply iteI<;>intro h)|((refine Jqa (Eb _ _ _ (by simp[bstr]) (by simp;omega)) ?_);simp only[go_sem,simprocAttr])|(exfalso;omega)));have hqr:qr (code s i)=[92,UInt8.ofNat c]:=by
   unfold qr;rw[hlr]
  have hrow:bstr (34 :: wrs (s.take (i+rlen s i)))=bstr (34 :: wrs (s.take i)) ++ [[.int .u8 92]] ++ [[.int .u8 c]]:=by
   rw[hq,hqr,<- Ebh,Gz,Ea2];simp[bstr];omega
  have hlen:(wrs (s.take (i+rlen s i))).length+1=(wrs (s.take i)).length+1+1+1:=by rw[hq,hqr];simp
  refine ⟨(i+rlen s i,g),⟨by simp only;omega,by simp only;omega,h3⟩,by simp only;omega,?_⟩;simp only[Ead];rw[hrow,hlen];exact Jqc
end Go.LX
namespace Go.LX
open Go Go.RowKit Go.Proofs
attribute [local irreducible] Al SWP Bi
def utfs (rs:List Int):List UInt8:=rs.flatMap utf
def wq (rs:List Int):List UInt8:=rs.flatMap qr
def AllR (rs:List Int):Prop:=∀ r∈rs,Cy r
theorem Ki (r:Int) (rs:List Int):utfs (r :: rs)=utf r ++ utfs rs:=rfl
theorem U4 (r:Int) (rs:List Int):wq (r :: rs)=qr r ++ wq rs:=rfl
theorem AllR.app {a b:List Int} (h1:AllR a) (h2:AllR b):AllR (a ++ b):=fun r h=>(Eax.1 h).elim (h1 r) (h2 r)
theorem AllR.tail {r:Int} {rs:List Int} (h:AllR (r :: rs)):AllR rs:=fun x hx=>h x (Eai _ hx)
theorem AllR.head {r:Int} {rs:List Int} (h:AllR (r :: rs)):Cy r:=h r Eaf
theorem O2:∀ (rs:List Int) (s:List UInt8) (f i:Nat),AllR rs->s.drop i=utfs rs->vF s f i=true
 | _,_,0,_,_,_=>rfl
 | [],s,f+1,i,_,h=>by
  have hl:=congrArg List.length h;simp[utfs] at hl;rw[vF,if_neg omg]
 | r :: rs,s,f+1,i,ha,h=>by
  rw[Ki] at h;obtain ⟨h1,_⟩:=Rp ha.head (utfs rs);rw[<- h,Ny,Nat.add_zero] at h1;have hp:=I4 r;have hd:s.drop (i+rlen s i)=utfs rs:=by
   rw[<- Ebj,h,h1,Edh]
  rw[vF];split
  ·rw[if_neg omg];exact O2 rs s f _ ha.tail hd
  ·rfl
theorem Pi:∀ (f:Nat) (s:List UInt8) (i:Nat),s.length<i+f->vF s f i=true->∃ rs,AllR rs/\s.drop i=utfs rs
 | 0,s,i,hf,_=>⟨[],by simp[AllR],Eao omg⟩
 | f+1,s,i,hf,h=>by
  rw[vF] at h;split at h
  ·rename_i hlt;split at h
   ·cases h
   ·rename_i hr;obtain ⟨rs,ha,hd⟩:=Pi f s _ omg h;refine ⟨(code s i:Int) :: rs,?_,?_⟩
    ·intro r hm;rcases Eak.1 hm with rfl | hm
     ·exact Fm hr
     ·exact ha r hm
    ·rw[Ki,H5 hr hlt,<- hd,<- Ebj,Ebk]
  ·exact ⟨[],by simp[AllR],Eao omg⟩
theorem Jb {s:List UInt8}:valid s=true ↔ ∃ rs,AllR rs/\s=utfs rs :=
 ⟨fun h=>by
  obtain ⟨rs,ha,hd⟩:=Pi (s.length+1) s 0 omg h;exact ⟨rs,ha,hd⟩,fun ⟨rs,ha,e⟩=>O2 rs s _ 0 ha (by rw[Ebn];exact e)⟩
theorem Jn1 {r:Int} (h:Cy r):wrs (utf r)=qr r:=by
 obtain ⟨h1,h2⟩:=Rp h [];rw[Eaw] at h1 h2;have hp:=I4 r;have:=Yx (s:=utf r) (i:=0) omg omg;rw[h1,Ebn,Edc,h2] at this;exact this
theorem Ru:∀ rs:List Int,AllR rs->wrs (utfs rs)=wq rs
 | [],_=>rfl
 | r :: rs,h=>by rw[Ki,U4,Jdx,Jn1 h.head,Ru rs h.tail]
theorem Tu (r:Int):(letR r=none/\r≠34/\r≠92)\/∃ c,letR r=some c/\Hr c=some r.toNat/\0<=r/\c<256:=by
 unfold letR;by_cases c1:r=34
 ·subst c1;exact .inr ⟨34,rfl,rfl,by decide,by decide⟩
 by_cases c2:r=92
 ·subst c2;exact .inr ⟨92,rfl,rfl,by decide,by decide⟩
 by_cases c3:r=8
 ·subst c3;exact .inr ⟨98,rfl,rfl,by decide,by decide⟩
 by_cases c4:r=12
 ·subst c4;exact .inr ⟨102,rfl,rfl,by decide,by decide⟩
 by_cases c5:r=10
 ·subst c5;exact .inr ⟨110,rfl,rfl,by decide,by decide⟩
 by_cases c6:r=13
 ·subst c6;exact .inr ⟨114,rfl,rfl,by decide,by decide⟩
 by_cases c7:r=9
 ·subst c7;exact .inr ⟨116,rfl,rfl,by decide,by decide⟩
 refine .inl ⟨by simp[*],c1,c2⟩
theorem R9 (s:List UInt8):(refQ s).length=(wrs s).length+2:=by simp[refQ]
theorem Xn:∀ (f:Nat) (s:List UInt8) (i:Nat) (out:List UInt8),1<=i->((uqF s f i out).2.2=0/\2<=(uqF s f i out).2.1/\(uqF s f i out).2.1<=s.length)\/((uqF s f i out).2.2=1/\(uqF s f i out).1=[]/\(uqF s f i out).2.1<=s.length)
 | 0,s,i,out,_=>.inr ⟨rfl,rfl,Eah _⟩
 | f+1,s,i,out,h1=>by
  rw[uqF];split
  ·split
   ·exact .inl ⟨rfl,by simp only;omega,by simp only;omega⟩
   ·split
    ·exact .inr ⟨rfl,rfl,by simp only;omega⟩
    ·exact Xn f s _ _ omg
  ·exact .inr ⟨rfl,rfl,Eah _⟩
theorem Jcv (s:List UInt8):((uq s).2.2=0/\2<=(uq s).2.1/\(uq s).2.1<=s.length)\/((uq s).2.2=1/\(uq s).1=[]/\(uq s).2.1<=s.length):=by
 unfold uq;split
 ·exact .inr ⟨rfl,rfl,Eau _⟩
 ·exact Xn _ _ _ _ omg
theorem Jo6 {r:Int} (h:32<=r) (h1:r≠34) (h2:r≠92):qr r=utf r:=by
 rcases Tu r with ⟨hl,_⟩ | ⟨c,hl,_⟩
 ·unfold qr;rw[hl];simp only;rw[if_neg omg]
 ·exfalso;unfold letR at hl;rw[if_neg omg,if_neg omg,if_neg omg,if_neg omg,if_neg omg,if_neg omg,if_neg omg] at hl;cases hl
theorem Jnq (r:Int):(qr r).length<=6:=by
 have:=Od r;unfold qr;split
 ·simp
 ·split
  ·simp[hex3]
  ·omega
theorem Jib {r:Int} (h0:0<=r) (h:r<128):(utf r).length=1:=by rw[D6,Nb ⟨h0,h⟩];rfl
theorem Jfn {c r:Nat} (h:Hr c=some r):(qr r).length<=2/\r<128:=by
 unfold Hr at h
 repeat' split at h
 all_goals first|(cases h;done)|(obtain rfl:=Ebd h;exact ⟨by decide,by decide⟩)
theorem Jpo {s:List UInt8} {i:Nat} (hi:i<s.length) (h0:(tk s i).2≠0) (h1:at_ s i≠34) (h2:32<=at_ s i):∃ r,Cy r/\(tk s i).1=utf r/\(utf r).length<=(tk s i).2/\(qr r).length<=(tk s i).2:=by
 unfold tk at h0 ⊢;split
 ·rename_i h92;rw[if_pos h92] at h0;generalize s.drop i=d at *
  have e2:(escR d).2≠0:=fun e=>h0 (by unfold escS;rw[if_pos e])
  have eS:escS d=(utf (escR d).1,(escR d).2):=by unfold escS;rw[if_neg e2]
  refine ⟨(escR d).1,O6 e2,by rw[eS],?_⟩;rw[eS];simp only;have hu:=Od (escR d).1;have hq:=Jnq (escR d).1;unfold escR at e2 hu hq ⊢;split at e2
  ·exact absurd rfl e2
  rename_i hl;rw[if_neg hl] at hu hq ⊢;cases hs:Hr (at_ d 1) with
  | some r =>
   obtain ⟨k1,k2⟩:=Jfn hs;simp only;rw[Jib omg omg];exact ⟨by decide,k1⟩
  | none =>
   rw[hs] at e2 hu hq;simp only at e2 hu hq ⊢;split at e2
   ·exact absurd rfl e2
   rename_i c1;rw[if_neg c1] at hu hq ⊢;split at e2
   ·rename_i c2;rw[if_pos c2] at hu hq ⊢;simp only at hu hq ⊢;omega
   rename_i c2;rw[if_neg c2] at hu hq ⊢;split at e2
   ·exact absurd rfl e2
   rename_i c3;rw[if_neg c3] at hu hq ⊢;simp only at hu hq ⊢;omega
 ·rename_i h92;rw[if_neg h92] at h0;simp only at h0 ⊢;have hcs:=Gq (s:=s) (i:=i) h0;have hl:=Uz h0 hi;refine ⟨code s i,Fm h0,(H5 h0 hi).symm,omg,?_⟩;rw[Jo6 omg omg omg];omega
theorem Tr:∀ (f:Nat) (s:List UInt8) (i:Nat) (rs:List Int) (x:List UInt8) (n:Nat),1<=i->AllR rs->(utfs rs).length+1<=i->(wq rs).length+1<=i->uqF s f i (utfs rs)=(x,n,0)->∃ ts,AllR ts/\x=utfs ts/\(utfs ts).length+2<=n/\(wq ts).length+2<=n
 | 0,s,i,rs,x,n,_,_,_,_,h=>by simp[uqF] at h
 | f+1,s,i,rs,x,n,h1,ha,hu,hw,h=>by
  rw[uqF] at h;split at h
  ·rename_i hi;split at h
   ·simp only[Ede] at h;obtain ⟨rfl,rfl,_⟩:=h;exact ⟨rs,ha,rfl,omg,omg⟩
   ·rename_i h34;split at h
    ·simp at h
    ·rename_i hb;obtain ⟨r,k1,k2,k3,k4⟩:=Jpo hi omg h34 omg;rw[k2,show utfs rs ++ utf r=utfs (rs ++ [r]) by simp[utfs]] at h;have eu:utfs (rs ++ [r])=utfs rs ++ utf r:=by simp[utfs]
     have ew:wq (rs ++ [r])=wq rs ++ qr r:=by simp[wq]
     refine Tr f s _ (rs ++ [r]) x n omg (ha.app fun y hy=>?_) (by rw[eu,Eac];omega) (by rw[ew,Eac];omega) h;rw[Ea0.1 hy];exact k1
  ·simp at h
theorem Jmq {s x:List UInt8} {n:Nat} (h:uq s=(x,n,0)):valid x=true/\x.length+2<=n/\(refQ x).length<=n/\n<=s.length:=by
 have he:=Jcv s;rw[h] at he;simp only at he;unfold uq at h;split at h
 ·simp at h
 ·obtain ⟨ts,ha,rfl,h1,h2⟩:=Tr _ s 1 [] x n omg (by simp[AllR]) (by simp[utfs]) (by simp[wq]) h;refine ⟨Jb.2 ⟨ts,ha,rfl⟩,h1,?_,omg⟩;rw[R9,Ru ts ha];exact h2
def figs (great:Bool):List UInt8:=if great then [48,49,50,51,52,53,54,55,56,57,65,66,67,68,69,70] else [48,49,50,51,52,53,54,55,56,57,97,98,99,100,101,102]
def fig (great:Bool) (d:Nat):UInt8:=(figs great).getD d 0
def codeS (n:Nat) (great:Bool):List UInt8:=[92,117,fig great (n / 4096 % 16),fig great (n / 256 % 16),fig great (n / 16 % 16),fig great (n % 16)]
end Go.LX
namespace Go.LX
open Go Go.RowKit Go.Proofs Go.Proofs.Tryz
attribute [local irreducible] Al SWP Bi
def Dv:Step:=⟨false,[],0⟩
def Bw (s:List UInt8):Step×Nat :=
 if s.take 1=[46] then
  if 0<Dm (s.drop 1) then (⟨false,(s.drop 1).take (Dm (s.drop 1)),0⟩,Dm (s.drop 1)+1)
  else if (uq (s.drop 1)).2.2≠0\/isWd (uq (s.drop 1)).1\/refQ (uq (s.drop 1)).1≠(s.drop 1).take (uq (s.drop 1)).2.1 then (Dv,0)
  else (⟨false,(uq (s.drop 1)).1,0⟩,(uq (s.drop 1)).2.1+1)
 else (Dv,0)
theorem Jni {s:List UInt8} (h:(uq s).2.2=0):valid (uq s).1=true/\(uq s).1.length+2<=(uq s).2.1/\(refQ (uq s).1).length<=(uq s).2.1/\(uq s).2.1<=s.length :=
 Jmq (s:=s) (x:=(uq s).1) (n:=(uq s).2.1) (by rw[<- h])
theorem Jl8 (s:List UInt8):valid (uq s).1=true/\(uq s).1.length<=s.length/\(uq s).2.1<=s.length:=by
 rcases Jcv s with h | ⟨h1,h2,h3⟩
 ·have:=Jni h.1;exact ⟨this.1,omg,omg⟩
 ·rw[h2];exact ⟨rfl,Eau _,h3⟩
theorem Ja3 (s:List UInt8) (hs:s.length<=1000000) (h0:¬ s.take 1=[46]):Det cx 147 [.p (.str s)] [] (.tup [.agg Dv.cells,.int .i64 0]) []:=by
 (refine bgo func147 ?_;simp only[go_sem,simprocAttr]);(repeat'(first|(apply iteI<;>intro h)|((refine Jqa (Bj s [46] hs sm) ?_);simp only[go_sem,simprocAttr])|fail))
 ·rfl
 ·exact absurd h0 (by assumption)
theorem Vu (s:List UInt8) (hs:s.length<=1000000) (h0:s.take 1=[46]) (h2:0<Dm (s.drop 1)):Det cx 147 [.p (.str s)] [] (.tup [.agg (Step.cells ⟨false,(s.drop 1).take (Dm (s.drop 1)),0⟩),.int .i64 (Dm (s.drop 1)+1:Nat)]) []:=by
 have h1:1<=s.length:=by cases s<;>simp at h0 ⊢
 have hw:=P3 (s.drop 1);rw[Ea5] at hw;(refine bgo func147 ?_;simp only[go_sem,simprocAttr,wi1 (i:=Dm (s.drop 1)) omg]);(repeat'(first|(apply iteI<;>intro h)|refine Jqj ?_|((first|(refine Jqa (Bj s [46] hs sm) ?_)|(refine Jqa (Nw (s.drop 1) (by simp;omega)) ?_));simp only[go_sem,simprocAttr,h0,wi1 (i:=Dm (s.drop 1)) omg])|(exfalso;omega)));rfl
theorem Ev (s:List UInt8) (hs:s.length<=1000000):Det cx 147 [.p (.str s)] [] (.tup [.agg (Bw s).1.cells,.int .i64 (Bw s).2]) []:=by
 by_cases h0:s.take 1=[46]
 ·have h1:1<=s.length:=by cases s<;>simp at h0 ⊢
  by_cases h2:0<Dm (s.drop 1)
  ·have e:Bw s=(⟨false,(s.drop 1).take (Dm (s.drop 1)),0⟩,Dm (s.drop 1)+1):=by unfold Bw;rw[if_pos h0,if_pos h2]
   rw[e];exact Vu s hs h0 h2
  ·obtain ⟨u1,u2,u3⟩:=Jl8 (s.drop 1);rw[Ea5] at u2 u3;have hw:Dm (s.drop 1)=0:=by omega
   have w1:IntKind.i64.wrap (1+((uq (s.drop 1)).2.1:Int))=(((uq (s.drop 1)).2.1+1:Nat):Int):=by rw[Int.add_comm];exact wi1 omg
   have no:((uq (s.drop 1)).2.2≠0\/isWd (uq (s.drop 1)).1\/refQ (uq (s.drop 1)).1≠(s.drop 1).take (uq (s.drop 1)).2.1)->Bw s=(Dv,0):=fun h=>by
    unfold Bw;rw[if_pos h0,if_neg h2,if_pos h]
   (refine bgo func147 ?_;simp only[go_sem,simprocAttr,wi1 (i:=(uq (s.drop 1)).2.1) omg]);(repeat'(first|(apply iteI<;>intro h)|refine Jqj ?_|((first|refine Jqm ?_|(refine Jqa (Bj s [46] hs sm) ?_)|(refine Jqa (Nw (s.drop 1) (by simp;omega)) ?_)|(refine Jqa (Ts (s.drop 1) (by simp;omega)) ?_)|(refine Jqb (Er (uq (s.drop 1)).1 omg) ?_)|(refine Jqb (Kt (uq (s.drop 1)).1 omg u1) ?_));simp only[go_sem,simprocAttr,h0,hw,w1,wi1 (i:=(uq (s.drop 1)).2.1) omg])|fail))
   ·rw[no (.inl omg)];exact ⟨rfl,rfl⟩
   ·rw[no (.inr (.inl (by assumption)))];exact ⟨rfl,rfl⟩
   ·rw[no (.inr (.inr (by assumption)))];exact ⟨rfl,rfl⟩
   ·have e:Bw s=(⟨false,(uq (s.drop 1)).1,0⟩,(uq (s.drop 1)).2.1+1):=by
     unfold Bw;rw[if_pos h0,if_neg h2,if_neg];rintro (h | h | h)
     ·omega
     ·contradiction
     ·exact absurd h (by assumption)
    rw[e];exact ⟨rfl,rfl⟩
 ·have e:Bw s=(Dv,0):=by unfold Bw;rw[if_neg h0]
  rw[e];exact Ja3 s hs h0
def eI (s:List UInt8):Int:=Lib.indexByte s (93:Int).toNat.toUInt8
def pT (s:List UInt8):List UInt8:=(s.drop 1).take ((eI s).toNat - 1)
theorem Jea {s:List UInt8} {e:Nat} (h:eI s=e):e<s.length:=by
 have:=(Lib.indexByte_some h).1;exact (Eab.1 this).1
def Ce (s:List UInt8):Step×Nat :=
 if s.take 1=[91]/\2<=eI s/\eI s<=8 then
  match Lib.atoiAll (pT s) with
  | .ok n=>if 0<=n/\n<=1000000/\Lib.itoa n=pT s then (⟨true,[],n⟩,(eI s).toNat+1) else (Dv,0)
  | _=>(Dv,0)
 else (Dv,0)
theorem Gg (s:List UInt8):Det cx 190 [.p (.str s),.p (.int .u8 93)] [] (.p (.int .i64 (eI s))) []:=Fu s 93
theorem Jhg (s:List UInt8) (hs:s.length<=1000000) (h0:¬ (s.take 1=[91]/\2<=eI s/\eI s<=8)):Det cx 149 [.p (.str s)] [] (.tup [.agg Dv.cells,.int .i64 0]) []:=by
 (refine bgo func149 ?_;simp only[go_sem,simprocAttr]);(repeat'(first|(apply iteI<;>intro h)|refine Jqj ?_|((first|(refine Jqa (Gg s) ?_)|(refine Jqa (Bj s [91] hs sm) ?_));simp only[go_sem,simprocAttr])|fail))
 ·rfl
 ·rfl
 ·rfl
 ·exact absurd ⟨Ea9.1 (by assumption),omg,omg⟩ h0
theorem Q1 (s:List UInt8) (hs:s.length<=1000000) (e:Nat) (he:eI s=e) (h0:s.take 1=[91]) (h1:2<=e) (h2:e<=8) (h3:∃ a,Qh ((s.drop 1).take (e - 1))=.tup [.int .i64 a,.ifc]):Det cx 149 [.p (.str s)] [] (.tup [.agg Dv.cells,.int .i64 0]) []:=by
 obtain ⟨a,h3⟩:=h3;have hl:=Jea he;(refine bgo func149 ?_;simp only[go_sem,simprocAttr]);(repeat'(first|(apply iteI<;>intro h)|refine Jqj ?_|((first|refine Jqm ?_|(refine Jqa (Gg s) ?_)|(refine Jqa (Bj s [91] hs sm) ?_)|(refine Jqa (U9 ((s.drop 1).take (e - 1)) (by simp;omega)) ?_));simp only[go_sem,simprocAttr,h0,he,h3])|(exfalso;omega)));rfl
theorem Jgb (s:List UInt8) (hs:s.length<=1000000) (e:Nat) (he:eI s=e) (h0:s.take 1=[91]) (h1:2<=e) (h2:e<=8) (n:Int) (hn:n<=9223372036854775807) (hn0:-9223372036854775808<=n) (h3:Qh ((s.drop 1).take (e - 1))=.tup [.int .i64 n,.nifc]):Det cx 149 [.p (.str s)] [] (.tup [.agg (if 0<=n/\n<=1000000/\Lib.itoa n=(s.drop 1).take (e - 1) then (⟨true,[],n⟩,e+1) else (Dv,0):Step×Nat).1.cells,.int .i64 (if 0<=n/\n<=1000000/\Lib.itoa n=(s.drop 1).take (e - 1) then (⟨true,[],n⟩,e+1) else (Dv,0):Step×Nat).2]) []:=by
 have hl:=Jea he;(refine bgo func149 ?_;simp only[go_sem,simprocAttr,wi1 (i:=e) omg]);(repeat'(first|(apply iteI<;>intro h)|refine Jqj ?_|((first|refine Jqm ?_|(refine Jqa (Gg s) ?_)|(refine Jqa (Bj s [91] hs sm) ?_)|(refine Jqa (U9 ((s.drop 1).take (e - 1)) (by simp;omega)) ?_)|(refine Jqb (N0 n hn0 hn) ?_));simp only[go_sem,simprocAttr,h0,he,h3,wi1 (i:=e) omg])|(exfalso;omega)))
 ·rw[if_neg omg];exact ⟨rfl,rfl⟩
 ·rw[if_neg (fun h=>absurd h.2.2 (by assumption))];exact ⟨rfl,rfl⟩
 ·rw[if_neg omg];exact ⟨rfl,rfl⟩
 ·rw[if_pos ⟨omg,omg,Ea9.1 (by assumption)⟩];exact ⟨rfl,rfl⟩
theorem Jr (s:List UInt8) (hs:s.length<=1000000):Det cx 149 [.p (.str s)] [] (.tup [.agg (Ce s).1.cells,.int .i64 (Ce s).2]) []:=by
 by_cases h:s.take 1=[91]/\2<=eI s/\eI s<=8
 ·obtain ⟨h0,h1,h2⟩:=h;obtain ⟨e,he⟩:∃ e:Nat,eI s=e:=⟨(eI s).toNat,omg⟩
  have hl:=Jea he;have hT:pT s=(s.drop 1).take (e - 1):=by unfold pT;rw[he];rfl
  unfold Ce;rw[if_pos ⟨h0,h1,h2⟩,hT,he];cases ha:Lib.atoiAll ((s.drop 1).take (e - 1)) with
  | ok n =>
   have hb:=Lib.atoiAll_bounds ha;exact Jgb s hs e he h0 omg omg n hb.2 hb.1 (by unfold Qh;rw[ha])
  | range=>exact Q1 s hs e he h0 omg omg ⟨_,by unfold Qh;rw[ha]⟩
  | _=>exact Q1 s hs e he h0 omg omg ⟨_,by unfold Qh;rw[ha]⟩
 ·unfold Ce;rw[if_neg h];exact Jhg s hs h
end Go.LX
namespace Go.LX
open Go Go.RowKit Go.Proofs
def PLe (x y:PV):Prop:=x=y\/(x=.snil/\y=.sl [])
def psLe:List PV->List PV->Prop
 | [],[]=>True
 | x :: xs,y :: ys=>PLe x y/\psLe xs ys
 | _,_=>False
theorem PLe.refl (x:PV):PLe x x:=.inl rfl
theorem PLe.nil:PLe .snil (.sl []):=.inr ⟨rfl,rfl⟩
theorem PLe.rep {w:World} {Im:Nat->Prop} {v:Value} {x y:PV} (h:PLe x y) (hr:PRep w Im v x):PRep w Im v y:=by
 rcases h with rfl | ⟨rfl,rfl⟩
 ·exact hr
 ·cases hr;exact PRep.slNil
theorem T7:∀ {a b:List PV},psLe a b->a.length=b.length/\∀ (i:Nat) (y:PV),b[i]? = some y->∃ x,a[i]? = some x/\PLe x y
 | [],[],_=>⟨rfl,fun i l' h=>by simp at h⟩
 | x :: a,y :: b,h=>by
  obtain ⟨h1,h2⟩:=h;obtain ⟨h3,h4⟩:=T7 h2;refine ⟨by simp[h3],fun i l' hl=>?_⟩;cases i with
  | zero=>simp at hl;subst hl;exact ⟨x,rfl,h1⟩
  | succ i=>simp at hl;simpa using h4 i l' hl
 | [],_ :: _,h=>h.elim
 | _ :: _,[],h=>h.elim
def OLe (l l':L):Prop:=l=l'\/(∃ x y,l=.p x/\l'=.p y/\PLe x y)\/∃ a b,l=.tup a/\l'=.tup b/\psLe a b
theorem OLe.rep {β:Env} {w:World} {Im:Nat->Prop} {v:Value} {l l':L} (h:OLe l l') (hr:LRep β w Im v l):LRep β w Im v l':=by
 rcases h with rfl | ⟨x,y,rfl,rfl,h⟩ | ⟨a,b,rfl,rfl,h⟩
 ·exact hr
 ·exact h.rep hr
 ·obtain ⟨vs,h1,h2,h3⟩:=hr;obtain ⟨g1,g2⟩:=T7 h;refine ⟨vs,h1,by rw[h2,g1],fun i x p hx hp=>?_⟩;obtain ⟨q,hq,hle⟩:=g2 i p hp;exact hle.rep (h3 i x q hx hq)
theorem Al.weak {X:Cx} {f:FuncId} {args:List L} {rs:Regs} {Post Post':L->Regs->Prop} (h:Al X f args rs Post) (hp:∀ l q,Post l q->∃ l',OLe l l'/\Post' l' q):Al X f args rs Post' :=
 ⟨h.1,fun β Im w vs hg hf=>(h.2 β Im w vs hg hf).mono fun _ _ ⟨v,l,rs',β',Im',he,hP,hr,hc⟩=>by
  obtain ⟨l',h1,h2⟩:=hp _ _ hP;exact ⟨v,l',rs',β',Im',he,h2,h1.rep hr,hc⟩⟩
theorem Det.weak {X:Cx} {f:FuncId} {args:List L} {rs rs':Regs} {l':L} (h:Al X f args rs fun m q=>OLe m l'/\q=rs'):Det X f args rs l' rs' :=
 h.weak fun l q ⟨h1,h2⟩=>⟨l',h1,rfl,h2⟩
theorem Jsf {a b:List PV} (h:psLe a b):OLe (.tup a) (.tup b):=.inr (.inr ⟨_,_,rfl,rfl,h⟩)
end Go.LX
namespace Go.LX
open Go Go.RowKit Go.Proofs Go.Proofs.Tryz
attribute [local irreducible] Al SWP Bi
def Ee (s:List UInt8) (i:Nat):Step×Nat :=
 if (Bw (s.drop i)).2≠0 then Bw (s.drop i)
 else if i=0 then (if s.take 1=[46]/\(Ce (s.drop 1)).2≠0 then ((Ce (s.drop 1)).1,(Ce (s.drop 1)).2+1) else (Dv,0))
 else Ce (s.drop i)
def Fl (s:List UInt8):Nat->Nat->List Step->List Step×Nat
 | 0,i,p=>(p,i)
 | f+1,i,p=>if i<s.length/\p.length<20/\(Ee s i).2≠0 then Fl s f (i+(Ee s i).2) (p ++ [(Ee s i).1]) else (p,i)
def Mp (s:List UInt8):List Step×Nat:=Fl s (s.length+1) 0 []
def Je (s:List UInt8):List Step×Nat×Nat :=
 if s=[46] then ([],0,0)
 else if (Mp s).2<s.length\/(Mp s).1.length=0 then ([],(Mp s).2,1)
 else ((Mp s).1,0,0)
theorem Jf2 (s:List UInt8):(Bw s).2<=s.length:=by
 unfold Bw;split
 ·rename_i h0;have h1:1<=s.length:=by cases s<;>simp at h0 ⊢
  have hw:=P3 (s.drop 1);have hu:=(Jl8 (s.drop 1)).2.2;rw[Ea5] at hw hu;split
  ·simp only;omega
  ·split<;>simp only<;>omega
 ·exact Eau _
theorem Zo (s:List UInt8):(Ce s).2<=s.length:=by
 unfold Ce;split
 ·rename_i h;obtain ⟨e,he⟩:∃ e:Nat,eI s=e:=⟨(eI s).toNat,omg⟩
  have hl:=Jea he;split
  ·split
   ·simp only;omega
   ·exact Eau _
  ·exact Eau _
 ·exact Eau _
theorem Jzk {s:List UInt8} {i:Nat} (h:i<=s.length):i+(Ee s i).2<=s.length:=by
 have h1:=Jf2 (s.drop i);have h2:=Zo (s.drop i);have h3:=Zo (s.drop 1);rw[Ea5] at h1 h2 h3;unfold Ee;split
 ·omega
 ·split
  ·subst i;split
   ·rename_i h0;have h1:1<=s.length:=by have:=h0.1;cases s<;>simp at this ⊢
    simp only;omega
   ·simp only;omega
  ·omega
theorem Gv {s:List UInt8} {f i:Nat} {p:List Step} (h:¬ (i<s.length/\p.length<20/\(Ee s i).2≠0)):Fl s f i p=(p,i):=by
 cases f with
 | zero=>rfl
 | succ f=>rw[Fl,if_neg h]
theorem Kn (p q:List Step):Bb (p ++ q)=Bb p ++ Bb q:=by simp[Bb]
theorem Jjx (s:List UInt8) (hs:s.length<=1000000):Det cx 99 [.p (.str s)] [] (.tup [.sl (Bb (Je s).1),.int .i64 (Je s).2.1,.int .i64 (Je s).2.2]) []:=by
 refine Det.weak ?_;by_cases hd:s=[46]
 ·subst hd;(refine bgo func99 ?_;simp only[go_sem,simprocAttr]);exact Jsf ⟨.nil,.refl _,.refl _,trivial⟩
 ·have hd':(s=[46])=False:=eq_false hd;(refine bgo func99 ?_;simp only[go_sem,simprocAttr,hd']);refine Jqg (Jrw _ (i:=5) (d:=59) 63 3 (.inl de) rfl) ?_;simp only[St.nilOwn,St.nilReg,go_sem,simprocAttr,hd'];refine SWP.loop (fun x:Nat×Nat×List Step=>⟨Ba 74 [(0,.p (.str s)),(5,.own 59 0 x.2.2.length),(6,.p (.int .i64 x.1))],[(59,.row 63 3 (Bb x.2.2))]⟩) (fun x=>x.1<=s.length/\s.length+1<=x.1+x.2.1/\x.2.2.length<=20/\Fl s x.2.1 x.1 x.2.2=Mp s) (fun x=>s.length - x.1) (0,s.length+1,[]) (by rw[show Bb []=[] from rfl];exact Jqc) ⟨Eau _,by simp,by simp,rfl⟩ ?_;rintro ⟨i,f,p⟩ ⟨h1,h2,h3,h4⟩;simp only at h1 h2 h3 h4;have hf:=Jf2 (s.drop i);have hp:=Zo (s.drop i);rw[Ea5] at hf hp;have wl (n:Nat) (hn:n<=3000000):IntKind.i64.wrap ((i:Int)+(n:Int))=((i+n:Nat):Int):=Aa omg omg;have bad:Fl s f i p=(p,i)->(i<s.length\/p.length=0)->Je s=([],i,1):=fun h h'=>by
   rw[h] at h4;unfold Je;rw[if_neg hd,<- h4,if_pos h']
  have good:Fl s f i p=(p,i)->¬ (i<s.length\/p.length=0)->Je s=(p,0,0):=fun h h'=>by
   rw[h] at h4;unfold Je;rw[if_neg hd,<- h4,if_neg h']
  have htk:(Bb p).take p.length=Bb p:=Eae sm;by_cases hc:¬ (i<s.length/\p.length<20)
  ·have hst:Fl s f i p=(p,i):=Gv fun h=>hc ⟨h.1,h.2.1⟩
   (refine lws ?_;simp only[go_sem,simprocAttr,Aq,htk,Eah]);(repeat'(first|(apply iteI<;>intro h)|refine Jqj ?_|(exfalso;omega)))
   ·rw[bad hst omg];exact Jsf ⟨.nil,.refl _,.refl _,trivial⟩
   ·rw[bad hst omg];exact Jsf ⟨.nil,.refl _,.refl _,trivial⟩
   ·rw[good hst omg];exact .inl rfl
  ·have hc:=Ea9.1 hc;have hdl:(s.drop i).length<=1000000:=by rw[Ea5];omega
   obtain ⟨g,rfl⟩:∃ g,f=g+1:=⟨f - 1,omg⟩
   by_cases hfi:(Bw (s.drop i)).2≠0
   ·have hn:Ee s i=Bw (s.drop i):=by unfold Ee;rw[if_pos hfi]
    have hel:Bb p ++ [(Bw (s.drop i)).1.cells]=Bb (p ++ [(Bw (s.drop i)).1]):=by rw[Kn];rfl
    rw[Fl,hn,if_pos ⟨hc.1,hc.2,hfi⟩] at h4;have hw:=wl (Bw (s.drop i)).2 omg;have hel':Bb p ++ [[.bool (Bw (s.drop i)).1.part,.str (Bw (s.drop i)).1.name,.int .i64 (Bw (s.drop i)).1.n]]=Bb (p ++ [(Bw (s.drop i)).1]):=hel;(refine lws ?_;simp only[go_sem,simprocAttr,Aq,htk,Eah,Aq,htk,Eah]);(repeat'(first|(apply iteI<;>intro h)|refine Jqj ?_|((refine Jqa (Ev (s.drop i) hdl) ?_);simp only[go_sem,simprocAttr,Aq,htk,Eah,Aq,htk,Eah,Step.cells,hel',hw])|(exfalso;omega)));refine ⟨by simp,omg,omg,(i+(Bw (s.drop i)).2,g,p ++ [(Bw (s.drop i)).1]),⟨by simp only;omega,by simp only;omega,by simp only[Eac,Ebs];omega,h4⟩,by simp only;omega,?_⟩;simp only[Eac,Ebs];exact Jqc
   ·have hf0:(Bw (s.drop i)).2=0:=by omega
    have w01:IntKind.i64.wrap 1=1:=by decide
    rw[Fl] at h4;by_cases hi:i=0
    ·have hi0:(i:Int)=0:=by omega
     have e0:s.drop i=s:=by rw[hi];rfl
     rw[e0] at hf0;by_cases hdot:s.take 1=[46]
     ·have hd1:(s.drop 1).length<=1000000:=by rw[Ea5];omega
      have hp1:=Zo (s.drop 1);have hs1:1<=s.length:=by cases s<;>simp at hdot ⊢
      rw[Ea5] at hp1;by_cases hpz:(Ce (s.drop 1)).2=0
      ·have hn:(Ee s i).2=0:=by unfold Ee;rw[if_neg hfi,if_pos hi,if_neg (fun h=>h.2 hpz)]
       have hst:Fl s (g+1) i p=(p,i):=Gv fun h=>h.2.2 hn
       have hel':=hi0;have hw:=hpz;(refine lws ?_;simp only[go_sem,simprocAttr,Aq,htk,Eah,Aq,htk,Eah,hel',Aq,htk,Eah,hel']);(repeat'(first|(apply iteI<;>intro h)|refine Jqj ?_|((first|(refine Jqa (Ev s hs) ?_)|(refine Jqa (Bj s [46] hs sm) ?_)|(refine Jqa (Jr (s.drop 1) hd1) ?_));simp only[go_sem,simprocAttr,Aq,htk,Eah,Aq,htk,Eah,Step.cells,hw,Aq,htk,Eah,Step.cells,hw,hf0,hdot,w01])|(exfalso;omega)));rw[bad hst omg,hi];exact Jsf ⟨.nil,.refl _,.refl _,trivial⟩
      ·have hn:Ee s i=((Ce (s.drop 1)).1,(Ce (s.drop 1)).2+1):=by unfold Ee;rw[if_neg hfi,if_pos hi,if_pos ⟨hdot,hpz⟩]
       rw[hn,if_pos ⟨hc.1,hc.2,Nat.succ_ne_zero _⟩] at h4;have hst:IntKind.i64.wrap (((Ce (s.drop 1)).2:Int)+1)=(((Ce (s.drop 1)).2+1:Nat):Int):=wi1 omg;have hel':Bb p ++ [[.bool (Ce (s.drop 1)).1.part,.str (Ce (s.drop 1)).1.name,.int .i64 (Ce (s.drop 1)).1.n]]=Bb (p ++ [(Ce (s.drop 1)).1]):=by rw[Kn];rfl
       have hw:=hi0;(refine lws ?_;simp only[go_sem,simprocAttr,Aq,htk,Eah,Aq,htk,Eah,hw,Aq,htk,Eah,hw]);(repeat'(first|(apply iteI<;>intro h)|refine Jqj ?_|((first|(refine Jqa (Ev s hs) ?_)|(refine Jqa (Bj s [46] hs sm) ?_)|(refine Jqa (Jr (s.drop 1) hd1) ?_));simp only[go_sem,simprocAttr,Aq,htk,Eah,Aq,htk,Eah,Step.cells,hel',Aq,htk,Eah,Step.cells,hel',hf0,hdot,w01,hst])|(exfalso;omega)));refine ⟨by simp,omg,omg,(i+((Ce (s.drop 1)).2+1),g,p ++ [(Ce (s.drop 1)).1]),⟨by simp only;omega,by simp only;omega,by simp only[Eac,Ebs];omega,h4⟩,by simp only;omega,?_⟩;simp only[Eac,Ebs];rw[hi];generalize Ce (s.drop 1)=P at *
       exact Jqc
     ·have hn:(Ee s i).2=0:=by unfold Ee;rw[if_neg hfi,if_pos hi,if_neg (fun h=>hdot h.1)]
      have hst:Fl s (g+1) i p=(p,i):=Gv fun h=>h.2.2 hn
      have hel':=hi0;have hw:=hdot;(refine lws ?_;simp only[go_sem,simprocAttr,Aq,htk,Eah,Aq,htk,Eah,hel',Aq,htk,Eah,hel']);(repeat'(first|(apply iteI<;>intro h)|((first|(refine Jqa (Ev s hs) ?_)|(refine Jqa (Bj s [46] hs sm) ?_));simp only[go_sem,simprocAttr,Aq,htk,Eah,Aq,htk,Eah,Step.cells,hw,Aq,htk,Eah,Step.cells,hw,hf0])|(exfalso;omega)));rw[bad hst omg,hi];exact Jsf ⟨.nil,.refl _,.refl _,trivial⟩
    ·by_cases hpz:(Ce (s.drop i)).2=0
     ·have hn:(Ee s i).2=0:=by unfold Ee;rw[if_neg hfi,if_neg hi,hpz]
      have hst:Fl s (g+1) i p=(p,i):=Gv fun h=>h.2.2 hn
      have hel':=hpz;have hw:IntKind.i64.wrap ((i:Int)+0)=(i:Int):=by rw[Int.add_zero];exact Aa omg omg
      have hdot:=hi;(refine lws ?_;simp only[go_sem,simprocAttr,Aq,htk,Eah,Aq,htk,Eah,Aq,htk,Eah]);(repeat'(first|(apply iteI<;>intro h)|refine Jqj ?_|((first|(refine Jqa (Ev (s.drop i) hdl) ?_)|(refine Jqa (Jr (s.drop i) hdl) ?_));simp only[go_sem,simprocAttr,Aq,htk,Eah,Aq,htk,Eah,Step.cells,hel',hw,Aq,htk,Eah,Step.cells,hel',hw,hf0])|(exfalso;omega)));rw[bad hst omg];exact Jsf ⟨.nil,.refl _,.refl _,trivial⟩
     ·have hn:Ee s i=Ce (s.drop i):=by unfold Ee;rw[if_neg hfi,if_neg hi]
      have hel':Bb p ++ [[.bool (Ce (s.drop i)).1.part,.str (Ce (s.drop i)).1.name,.int .i64 (Ce (s.drop i)).1.n]]=Bb (p ++ [(Ce (s.drop i)).1]):=by rw[Kn];rfl
      rw[hn,if_pos ⟨hc.1,hc.2,hpz⟩] at h4;have hw:IntKind.i64.wrap ((i:Int)+0)=(i:Int):=by rw[Int.add_zero];exact Aa omg omg
      have hdot:=hi;have hst:=wl (Ce (s.drop i)).2 omg;have w01:IntKind.i64.wrap (((Ce (s.drop i)).2:Int)+0)=((Ce (s.drop i)).2:Int):=by rw[Int.add_zero];exact Aa omg omg
      (refine lws ?_;simp only[go_sem,simprocAttr,Aq,htk,Eah,Aq,htk,Eah,Aq,htk,Eah]);(repeat'(first|(apply iteI<;>intro h)|refine Jqj ?_|((first|(refine Jqa (Ev (s.drop i) hdl) ?_)|(refine Jqa (Jr (s.drop i) hdl) ?_));simp only[go_sem,simprocAttr,Aq,htk,Eah,Aq,htk,Eah,Step.cells,hel',hw,Aq,htk,Eah,Step.cells,hel',hw,hf0,w01,hst])|(exfalso;omega)));refine ⟨by simp,omg,omg,(i+((Ce (s.drop i)).2),g,p ++ [(Ce (s.drop i)).1]),⟨by simp only;omega,by simp only;omega,by simp only[Eac,Ebs];omega,h4⟩,by simp only;omega,?_⟩;simp only[Eac,Ebs];exact Jqc
end Go.LX
namespace Go.LX
open Go Go.RowKit Go.Proofs
attribute [local irreducible] Al SWP Bi
def Bv (x:Step):List UInt8:=if x.part=true then 91 :: (Lib.itoa x.n ++ [93]) else if isWd x.name then 46 :: x.name else 46 :: refQ x.name
def Br (p:List Step):List UInt8:=p.flatMap Bv
def Hy (p:List Step):List UInt8:=match p with
 | []=>[46]
 | x :: _=>if x.part=true then 46 :: Br p else Br p
def Kkc (p:List Step):List UInt8:=match p with
 | []=>[]
 | x :: _=>if x.part=true then 46 :: Br p else Br p
end Go.LX
namespace Go.LX
open Go Go.RowKit Go.Proofs Go.Proofs.Tryz
attribute [local irreducible] Al SWP Bi
def isDg (c:Nat):Prop:=48<=c/\c<=57
instance (c:Nat):Decidable (isDg c):=inferInstanceAs (Decidable (_/\_))
def dgR:Nat->List UInt8->List UInt8
 | k+1,c :: r=>if isDg c.toNat then c :: dgR k r else []
 | _,_=>[]
def valD (l:List UInt8):Nat:=l.foldl (fun a c=>a * 10+(c.toNat - 48)) 0
def p10:Nat->Nat
 | 0=>1
 | k+1=>10 * p10 k
theorem Kfk:∀ k,k<8->p10 k<=10000000:=by decide
theorem Zl (l:List UInt8) (c:UInt8):valD (l ++ [c])=valD l * 10+(c.toNat - 48):=by simp[valD]
theorem Kbm:∀ (n:Nat) (l:List UInt8),l.length=n->(∀ c∈l,isDg c.toNat)->valD l<p10 n
 | 0,l,h,_=>by rw[Ean h];decide
 | n+1,l,h,hd=>by
  have hne:l≠[]:=fun e=>by subst e;simp at h
  rw[<- Ecm hne,Zl];have h1:=Kbm n l.dropLast (by rw[List.length_dropLast];omega) (fun c hc=>hd c (List.dropLast_subset _ hc));have h2:=hd _ (List.getLast_mem hne);unfold isDg at h2;rw[p10];omega
theorem Jc6:∀ (k:Nat) (l:List UInt8),∀ c∈dgR k l,isDg c.toNat
 | 0,l=>by simp[dgR]
 | k+1,[]=>by simp[dgR]
 | k+1,c :: r=>by
  intro d hd;rw[dgR] at hd;split at hd
  ·rcases Eak.1 hd with rfl | hd
   ·assumption
   ·exact Jc6 k r d hd
  ·cases hd
theorem Jd2:∀ (k:Nat) (l:List UInt8),(dgR k l).length<=k/\(dgR k l).length<=l.length
 | 0,l=>by simp[dgR]
 | k+1,[]=>by simp[dgR]
 | k+1,c :: r=>by
  rw[dgR];split
  ·have:=Jd2 k r;simp;omega
  ·simp
theorem Jdy:∀ (k:Nat) (l:List UInt8),dgR k l=l.take (dgR k l).length
 | 0,l=>by simp[dgR]
 | k+1,[]=>by simp[dgR]
 | k+1,c :: r=>by
  rw[dgR];split
  ·rw[Ead,Ebv,<- Jdy k r]
  ·simp
def figS (s:List UInt8) (i:Nat):Int×Nat :=
 if (dgR 7 (s.drop i)).length=0\/(at_ s i=48/\1<(dgR 7 (s.drop i)).length)\/1000000<valD (dgR 7 (s.drop i)) then (-1,i)
 else (valD (dgR 7 (s.drop i)),i+(dgR 7 (s.drop i)).length)
theorem Kf1 {s:List UInt8} {i k:Nat} (hi:i<s.length) (hd:isDg (at_ s i)) (hk:0<k):dgR k (s.drop i)=s[i] :: dgR (k - 1) (s.drop (i+1)):=by
 rw[Eaz hi];obtain ⟨j,rfl⟩:∃ j,k=j+1:=⟨k - 1,omg⟩
 rw[dgR,if_pos (by rw[Jxv (Eaa hi)] at hd;exact hd)];rfl
theorem Kfg {s:List UInt8} {i k:Nat} (h:¬ (i<s.length/\isDg (at_ s i)/\0<k)):dgR k (s.drop i)=[]:=by
 by_cases hi:i<s.length
 ·rw[Eaz hi];cases k with
  | zero=>rfl
  | succ j=>rw[dgR,if_neg (fun hd=>h ⟨hi,by rw[Jxv (Eaa hi)];exact hd,omg⟩)]
 ·rw[Eao omg];cases k<;>rfl
theorem J4z (s:List UInt8) (i:Nat) (hs:s.length<=1000000) (hi:i<=s.length):Det cx 221 [.p (.str s),.p (.int .i64 i)] [] (.tup [.int .i64 (figS s i).1,.int .i64 (figS s i).2]) []:=by
 (refine bgo func221 ?_;simp only[go_sem,simprocAttr]);refine SWP.loop (fun x:Nat×List UInt8=>⟨Ba 63 [(0,.p (.str s)),(1,.p (.int .i64 (i+x.1:Nat))),(6,.p (.int .i64 (valD x.2))),(7,.p (.int .i64 i))],[]⟩) (fun x=>x.1<=7/\i+x.1<=s.length/\x.2.length=x.1/\(∀ c∈x.2,isDg c.toNat)/\x.2 ++ dgR (7 - x.1) (s.drop (i+x.1))=dgR 7 (s.drop i)) (fun x=>7 - x.1) (0,[]) (by rw[show valD []=0 from rfl];exact Jqc) ⟨by simp,by simp only;omega,rfl,by simp,by simp⟩ ?_;rintro ⟨k,l⟩ ⟨h1,h2,h3,h4,h5⟩;simp only at h1 h2 h3 h4 h5;have hv:=Kbm k l h3 h4;have hp:=Kfk k omg;have hw:IntKind.i64.wrap (((i+k:Nat):Int) - (i:Int))=(k:Int):=by rw[Aa omg omg];omega
 have hstop:¬ (i+k<s.length/\isDg (at_ s (i+k))/\0<7 - k)->dgR 7 (s.drop i)=l:=fun h=>by
  rw[Kfg h,Eaw] at h5;exact h5.symm
 (refine lws ?_;simp only[go_sem,simprocAttr,hw,wi1 (i:=i) omg]);(repeat'(first|(apply iteI<;>intro h)|refine Jqj ?_|(exfalso;omega)))
 all_goals first
  | (exfalso;omega)
  | (
   have e:=hstop (by unfold isDg;omega);unfold figS;rw[e,if_pos omg];exact ⟨rfl,rfl⟩)
  | (
   have e:=hstop (by unfold isDg;omega);unfold figS;rw[e,if_neg omg,h3];exact ⟨rfl,rfl⟩)
  | skip
 have hlt:i+k<s.length:=by omega
 have hd:isDg (at_ s (i+k)):=by unfold isDg;omega
 have hat:at_ s (i+k)=(s[i+k]).toNat:=Jxv (Eaa hlt);rw[Kf1 hlt hd omg] at h5;have hp1:=Kfk (k+1) omg;rw[p10] at hp1;have hv1:IntKind.i64.wrap (IntKind.i64.wrap ((valD l:Int) * 10)+IntKind.i64.wrap (IntKind.u8.wrap ((at_ s (i+k):Int) - 48)))=((valD (l ++ [s[i+k]]):Nat):Int):=by
  rw[Zl,<- hat];unfold isDg at hd;simp (disch:=omega) only [Aa,Ab];omega
 rw[hv1];refine ⟨(k+1,l ++ [s[i+k]]),⟨by simp only;omega,by simp only;omega,by simp only[Eac,Ebs];omega,?_,?_⟩,by simp only;omega,?_⟩
 ·intro c hc;rcases Eax.1 hc with hc | hc
  ·exact h4 c hc
  ·rw[Ea0] at hc;subst hc;rw[<- hat];exact hd
 ·simp only;rw[<- h5,Ea2,List.singleton_append];rfl
 ·exact Jqc
end Go.LX
namespace Go.LX
open Go Go.RowKit Go.Proofs
attribute [local irreducible] Al SWP Bi
theorem Fv (m:Nat):Lib.decDigits m=if m<10 then [UInt8.ofNat (48+m)] else Lib.decDigits (m / 10) ++ [UInt8.ofNat (48+m % 10)]:=by
 rw[Lib.decDigits];split<;>rfl
theorem Qj {m:Nat} (h:m<10):(UInt8.ofNat (48+m)).toNat=48+m:=by
 rw[UInt8.toNat_ofNat'];omega
theorem Jmj:∀ m:Nat,∀ c∈Lib.decDigits m,isDg c.toNat:=by
 intro m
 induction m using Nat.strongRecOn with
 | _ m ih =>
  intro c hc;rw[Fv] at hc;split at hc
  ·rw[Ea0] at hc;subst hc;rw[Qj (by assumption)];unfold isDg;omega
  ·rcases Eax.1 hc with hc | hc
   ·exact ih (m / 10) omg c hc
   ·rw[Ea0] at hc;subst hc;rw[Qj omg];unfold isDg;omega
theorem Xc:∀ m:Nat,valD (Lib.decDigits m)=m:=by
 intro m
 induction m using Nat.strongRecOn with
 | _ m ih =>
  rw[Fv];split
  ·show 0 * 10+((UInt8.ofNat (48+m)).toNat - 48)=m;rw[Qj (by assumption)];omega
  ·rw[Zl,ih (m / 10) omg,Qj omg];omega
theorem U6 (m:Nat):Lib.decDigits m≠[]:=by
 rw[Fv];split<;>simp
theorem Jg0:∀ m:Nat,∀ c r,Lib.decDigits m=c :: r->c.toNat=48->r=[]/\m=0:=by
 intro m
 induction m using Nat.strongRecOn with
 | _ m ih =>
  intro c r h hc;rw[Fv] at h;split at h
  ·cases h;rw[Qj (by assumption)] at hc;exact ⟨rfl,omg⟩
  ·cases hd:Lib.decDigits (m / 10) with
   | nil=>exact absurd hd (U6 _)
   | cons d q =>
    rw[hd] at h;cases h;have:=(ih (m / 10) omg _ _ hd hc).2;omega
theorem Sa:∀ (n:Nat) (t:List UInt8),t.length=n+1->(∀ c∈t,isDg c.toNat)->(n=0\/at_ t 0≠48)->Lib.decDigits (valD t)=t/\(at_ t 0≠48->0<valD t)
 | 0,t,hl,hd,_=>by
  match t,hl with
  | [c],_ =>
   have hc:=hd c sm;unfold isDg at hc;have e:valD [c]=c.toNat - 48:=by show 0 * 10+(c.toNat - 48)=_;omega
   rw[e,Fv,if_pos omg];refine ⟨?_,fun h=>?_⟩
   ·congr 1;apply UInt8.toNat_inj.1;rw[Qj omg];omega
   ·have:at_ [c] 0=c.toNat:=rfl;omega
 | n+1,t,hl,hd,h0=>by
  have hne:t≠[]:=fun e=>by subst e;simp at hl
  have ht:=Ecm hne;have hdl:t.dropLast.length=n+1:=by rw[List.length_dropLast];omega
  have ha0:at_ t.dropLast 0=at_ t 0:=by
   rw[<- ht];have:0<t.dropLast.length:=by omega
   simp only[at_,Eaj,List.dropLast_concat];rw[Eat this]
  have h1:=Sa n t.dropLast hdl (fun c hc=>hd c (List.dropLast_subset _ hc)) (.inr (by rw[ha0];omega));rw[ha0] at h1;have h2:=h1.2 omg;have h3:=hd _ (List.getLast_mem hne);unfold isDg at h3;have hv:valD t=valD t.dropLast * 10+((t.getLast hne).toNat - 48):=by
   conv=>lhs;rw[<- ht]
   rw[Zl]
  refine ⟨?_,fun _=>by omega⟩;rw[Fv,if_neg omg];have e1:valD t / 10=valD t.dropLast:=by omega
  have e2:UInt8.ofNat (48+valD t % 10)=t.getLast hne:=by
   apply UInt8.toNat_inj.1;rw[Qj omg];omega
  rw[e1,e2,h1.1,ht]
theorem Pj:∀ (l:List UInt8) (a:Nat),(∀ c∈l,isDg c.toNat)->Lib.decFrom a l=some (l.foldl (fun a c=>a * 10+(c.toNat - 48)) a)
 | [],a,_=>rfl
 | c :: r,a,h=>by
  have hc:=h c Eaf;unfold isDg at hc;rw[Lib.decFrom,Lib.digitVal,if_pos hc];exact Pj r _ fun d hd=>h d (Eai _ hd)
theorem Jbw {t:List UInt8} (hne:t≠[]) (hl:t.length<=7) (hd:∀ c∈t,isDg c.toNat):Lib.atoiAll t=.ok (valD t:Int):=by
 rw[Lib.atoiAll_short t omg];cases t with
 | nil=>exact absurd rfl hne
 | cons c r =>
  have hc:=hd c Eaf;unfold isDg at hc;have h45:¬ (c == 45)=true:=fun h=>by have:=beq_iff_eq.1 h;subst this;simp at hc
  have h43:¬ (c == 43)=true:=fun h=>by have:=beq_iff_eq.1 h;subst this;simp at hc
  rw[Lib.atoi,if_neg h45,if_neg h43,Lib.decNat,if_neg sm,Pj _ _ hd];rfl
theorem Jkf:∀ (T rest:List UInt8) (k:Nat),(∀ c∈T,isDg c.toNat)->T.length<=k->(∀ c q,rest=c :: q->¬ isDg c.toNat)->dgR k (T ++ rest)=T
 | [],rest,k,_,_,h=>by
  cases k with
  | zero=>rfl
  | succ k=>cases rest with
   | nil=>rfl
   | cons c q=>rw[List.nil_append,dgR,if_neg (h c q rfl)]
 | c :: T,rest,k,hd,hl,h=>by
  cases k with
  | zero=>simp at hl
  | succ k =>
   rw[Ebh,dgR,if_pos (hd c Eaf),Jkf T rest k (fun d hm=>hd d (Eai _ hm)) (by simp at hl;omega) h]
theorem eI_of {u:List UInt8} {e:Nat} (h:u[e]? = some 93) (hb:∀ j,j<e->u[j]? ≠ some 93):eI u=e:=by
 have hge:=Lib.indexByte_ge u ((93:Int).toNat.toUInt8);have hc:(93:Int).toNat.toUInt8=93:=rfl;by_cases hlt:eI u<0
 ·have:Lib.indexByte u ((93:Int).toNat.toUInt8) = -1:=by unfold eI at hlt;omega
  exact absurd h (Lib.indexByte_none this e)
 ·obtain ⟨o,ho⟩:∃ o:Nat,eI u=o:=⟨(eI u).toNat,omg⟩
  obtain ⟨h1,h2⟩:=Lib.indexByte_some (show Lib.indexByte u ((93:Int).toNat.toUInt8)=o from ho);rw[hc] at h1 h2;rw[ho];rcases Nat.lt_trichotomy o e with hl | hl | hl
  ·exact absurd h1 (hb o hl)
  ·omega
  ·exact absurd h (h2 e hl)
theorem Jle {r:List UInt8} (h0:dgR 7 r≠[]) (h1:¬ (at_ r 0=48/\1<(dgR 7 r).length)) (h2:valD (dgR 7 r)<=1000000) (h3:r[(dgR 7 r).length]? = some 93) :
  Ce (91 :: r)=(⟨true,[],(valD (dgR 7 r):Nat)⟩,(dgR 7 r).length+2):=by
 have hl:=Jd2 7 r;have hp:=Jdy 7 r;have hall:=Jc6 7 r;generalize dgR 7 r=t at *
 have hlt:0<t.length:=Ecj.2 h0;have he:eI (91 :: r)=((t.length+1:Nat):Int):=by
  refine eI_of (by simpa using h3) fun j hj hjs=>?_
  cases j with
  | zero=>simp at hjs
  | succ j =>
   rw[List.getElem?_cons_succ] at hjs;have hjt:t[j]? = some 93:=by rw[hp,Ecy omg];exact hjs
   have:=hall 93 (Eag hjt);unfold isDg at this;simp at this
 have hT:pT (91 :: r)=t:=by
  unfold pT;rw[he,Ecd,Ebn];rw[show ((t.length+1:Nat):Int).toNat - 1=t.length by omega];exact hp.symm
 have ha0:at_ t 0=at_ r 0:=by
  rw[hp];simp only[at_,Eaj];rw[Ecy omg]
 have hcan:=Sa (t.length - 1) t omg hall (by rw[ha0];omega);unfold Ce;rw[if_pos ⟨rfl,omg,omg⟩,hT,Jbw h0 hl.1 hall];simp only;rw[if_pos ⟨omg,omg,by rw[Lib.itoa_nonneg,hcan.1]⟩,he];rfl
theorem J2k {r:List UInt8} (h:(Ce (91 :: r)).2≠0):dgR 7 r≠[]/\¬ (at_ r 0=48/\1<(dgR 7 r).length)/\valD (dgR 7 r)<=1000000/\r[(dgR 7 r).length]? = some 93:=by
 unfold Ce at h;split at h
 case isFalse=>exact absurd rfl h
 rename_i hc;obtain ⟨-,hc1,hc2⟩:=hc;obtain ⟨e,he⟩:∃ e:Nat,eI (91 :: r)=e:=⟨(eI (91 :: r)).toNat,omg⟩
 have hlt:=Jea he;have h93:=(Lib.indexByte_some (show Lib.indexByte (91 :: r) ((93:Int).toNat.toUInt8)=e from he)).1;rw[show (93:Int).toNat.toUInt8=93 from rfl] at h93;obtain ⟨k,rfl⟩:∃ k,e=k+1:=⟨e - 1,omg⟩
 rw[List.getElem?_cons_succ] at h93;have hT:pT (91 :: r)=r.take k:=by
  unfold pT;rw[he,Ecd,Ebn];rw[show ((k+1:Nat):Int).toNat - 1=k by omega]
 rw[hT] at h;split at h
 case h_2=>exact absurd rfl h
 rename_i n _;split at h
 case isFalse=>exact absurd rfl h
 rename_i hn;obtain ⟨hn0,hn1,hn2⟩:=hn;obtain ⟨m,rfl⟩:∃ m:Nat,n=m:=⟨n.toNat,omg⟩
 rw[Lib.itoa_nonneg] at hn2;have hkl:k<r.length:=(Eab.1 h93).1;have hlen:(Lib.decDigits m).length=k:=by rw[hn2,Eay];omega
 have hrun:dgR 7 r=Lib.decDigits m:=by
  have:=Jkf (Lib.decDigits m) (r.drop k) 7 (Jmj m) omg (fun c q hcq=>by
   rw[Eaz hkl] at hcq;cases hcq;have:=(Eab.1 h93).2;rw[this];unfold isDg;simp)
  rw[hn2,Ebk] at this;rw[this,hn2]
 rw[hrun,hlen,Xc];refine ⟨U6 m,fun ⟨g1,g2⟩=>?_,omg,h93⟩;cases hd:Lib.decDigits m with
 | nil=>exact U6 m hd
 | cons c q =>
  have hr0:at_ r 0=c.toNat:=by
   have:(r.take k)[0]? = some c:=by rw[<- hn2,hd];rfl
   rw[Ecy omg] at this;exact Jxv this
  have:=(Jg0 m c q hd omg).1;subst this;rw[hd] at hlen;simp at hlen;omega
theorem Jx5 {u:List UInt8} (h:(Ce u).2=0):Ce u=(Dv,0):=by
 unfold Ce at h ⊢;by_cases c:u.take 1=[91]/\2<=eI u/\eI u<=8
 ·rw[if_pos c] at h ⊢;cases ha:Lib.atoiAll (pT u) with
  | ok n =>
   rw[ha] at h;simp only at h ⊢;by_cases d:0<=n/\n<=1000000/\Lib.itoa n=pT u
   ·rw[if_pos d] at h;cases h
   ·rw[if_neg d]
  | range=>rfl
  | _=>rfl
 ·rw[if_neg c]
def Juy (s:List UInt8) (i:Nat):Step×Nat :=
 if i<s.length/\at_ s i=91 then
  if 0<=(figS s (i+1)).1/\(figS s (i+1)).2<s.length/\at_ s (figS s (i+1)).2=93 then (⟨true,[],(figS s (i+1)).1⟩,(figS s (i+1)).2+1 - i) else (Dv,0)
 else (Dv,0)
theorem Kbj (s:List UInt8) (i:Nat):Juy s i=Ce (s.drop i):=by
 unfold Juy;by_cases hi:i<s.length/\at_ s i=91
 ·rw[if_pos hi];obtain ⟨hl,ha⟩:=hi;have hd:=Eaz hl;have h91:s[i]=91:=UInt8.toNat_inj.1 (by rw[<- Jxv (Eaa hl),ha];rfl);rw[h91] at hd;rw[hd];have ha0:at_ (s.drop (i+1)) 0=at_ s (i+1):=Ko s (i+1) 0;have hr:(s.drop (i+1))[(dgR 7 (s.drop (i+1))).length]? = s[i+1+(dgR 7 (s.drop (i+1))).length]?:=Eco;have h93:∀ j,(j<s.length/\at_ s j=93) ↔ s[j]? = some 93:=fun j=>by
   constructor
   ·rintro ⟨h1,h2⟩;rw[Eaa h1];congr 1;exact UInt8.toNat_inj.1 (by rw[<- Jxv (Eaa h1),h2];rfl)
   ·intro h;exact ⟨(Eab.1 h).1,Jxv h⟩
  by_cases hf:dgR 7 (s.drop (i+1))≠[]/\¬ (at_ (s.drop (i+1)) 0=48/\1<(dgR 7 (s.drop (i+1))).length)/\valD (dgR 7 (s.drop (i+1)))<=1000000
  ·have hfl:(dgR 7 (s.drop (i+1))).length≠0:=fun h=>hf.1 (Ean h)
   have e:figS s (i+1)=(((valD (dgR 7 (s.drop (i+1))):Nat):Int),i+1+(dgR 7 (s.drop (i+1))).length):=by
    unfold figS;rw[if_neg];rintro (h | h | h)
    ·exact hfl h
    ·exact hf.2.1 (by rw[ha0];exact h)
    ·omega
   rw[e];simp only;by_cases hb:s[i+1+(dgR 7 (s.drop (i+1))).length]? = some 93
   ·rw[if_pos ⟨omg,(h93 _).2 hb⟩,Jle hf.1 hf.2.1 hf.2.2 (by rw[hr];exact hb)];congr 1;omega
   ·rw[if_neg (fun h=>hb ((h93 _).1 h.2))];refine (Jx5 (Ebu fun h=>hb ?_)).symm;rw[<- hr];exact (J2k h).2.2.2
  ·have e:figS s (i+1)=(-1,i+1):=by
    unfold figS;rw[if_pos];apply Ebu;intro h;refine hf ⟨fun h'=>h (.inl (by rw[h'];rfl)),fun h'=>h (.inr (.inl (by rw[<- ha0];exact h'))),?_⟩;omega
   rw[e];rw[if_neg (fun h=>by have:=h.1;simp only at this;omega)];refine (Jx5 (Ebu fun h=>hf ?_)).symm;have:=J2k h;exact ⟨this.1,this.2.1,this.2.2.1⟩
 ·rw[if_neg hi];unfold Ce;rw[if_neg];rintro ⟨h,-⟩;have hl:i<s.length:=by
   apply Ebu;intro hn;rw[Eao omg] at h;cases h
  rw[Eaz hl,Ebv,Eb7] at h;have:s[i]=91:=by simpa using h
  exact hi ⟨hl,by rw[Jxv (Eaa hl),this];rfl⟩
end Go.LX
namespace Go.LX
open Go Go.RowKit Go.Proofs Go.Proofs.Tryz
attribute [local irreducible] Al SWP Bi
def H3 (s:List UInt8) (j:Nat):Prop:=letP (at_ s j)\/(0<j/\figP (at_ s j))
instance (s:List UInt8) (j:Nat):Decidable (H3 s j):=inferInstanceAs (Decidable (_\/_))
theorem Wt (s:List UInt8):∀ f i,i<=s.length->s.length+1<=i+f->(∀ j,i<=j->j<wF s f i->H3 s j)/\(wF s f i<s.length->¬ H3 s (wF s f i))
 | 0,i,h,h2=>by omega
 | f+1,i,h,h2=>by
  rw[wF];split
  ·rename_i hc;obtain ⟨g1,g2⟩:=Wt s f (i+1) omg omg;refine ⟨fun j h3 h4=>?_,g2⟩;by_cases hj:j=i
   ·subst hj;exact hc.2
   ·exact g1 j omg h4
  ·rename_i hc;exact ⟨fun j h3 h4=>by omega,fun hl hg=>hc ⟨hl,hg⟩⟩
theorem Sh {s:List UInt8} {j:Nat} (h:j<Dm s):H3 s j:=(Wt s (s.length+1) 0 (Eau _) omg).1 j (Eau _) h
theorem Jam {s:List UInt8} (h:Dm s<s.length):¬ H3 s (Dm s):=(Wt s (s.length+1) 0 (Eau _) omg).2 h
theorem Kaz {s:List UInt8} {m j:Nat} (h:j<m):at_ (s.take m) j=at_ s j:=by
 simp only[at_,Eaj];rw[Ecy h]
theorem Jz8 {u:List UInt8} {j:Nat} (hj:j<u.length) (hw:j<=Dm u):isWd (u.take (j+1)) ↔ j<Dm u:=by
 have hl:(u.take (j+1)).length=j+1:=by rw[Eay];omega
 have hle:=P3 (u.take (j+1));have hne:u.take (j+1)≠[]:=fun e=>by rw[e] at hl;simp at hl
 have hat:∀ x,x<j+1->(H3 (u.take (j+1)) x ↔ H3 u x):=fun x hx=>by unfold H3;rw[Kaz hx]
 constructor
 ·rintro ⟨_,h⟩;rw[hl] at h;have h1:=(hat j omg).1 (Sh omg);apply Ebu;intro hn;have e:Dm u=j:=by omega
  exact Jam (s:=u) omg (by rw[e];exact h1)
 ·intro h;refine ⟨hne,?_⟩;apply Ebu;intro hn;have hlt:Dm (u.take (j+1))<j+1:=by omega
  exact Jam (s:=u.take (j+1)) omg ((hat _ hlt).2 (Sh omg))
def Js6 (s:List UInt8) (i:Nat) (first:Bool):Step×Nat :=
 if (Bw (s.drop i)).2≠0 then Bw (s.drop i)
 else if first=true then (if (i<s.length/\at_ s i=46)/\(Juy s (i+1)).2≠0 then ((Juy s (i+1)).1,(Juy s (i+1)).2+1) else (Dv,0))
 else if i<s.length/\at_ s i=46 then (Dv,0) else Juy s i
theorem Jzd {s:List UInt8} {i:Nat}:(s.drop i).take 1=[46] ↔ (i<s.length/\at_ s i=46):=by
 constructor
 ·intro h;have hl:i<s.length:=by
   apply Ebu;intro hn;rw[Eao omg] at h;cases h
  rw[Eaz hl,Ebv,Eb7] at h;have:s[i]=46:=by simpa using h
  exact ⟨hl,by rw[Jxv (Eaa hl),this];rfl⟩
 ·rintro ⟨hl,ha⟩;rw[Eaz hl,Ebv,Eb7];congr 1;exact UInt8.toNat_inj.1 (by rw[<- Jxv (Eaa hl),ha];rfl)
theorem J6v {s:List UInt8} {i:Nat} (h:i<=s.length):i<=(figS s i).2/\(figS s i).2<=s.length/\(figS s i).1<=1000000/\-1<=(figS s i).1:=by
 have:=(Jd2 7 (s.drop i)).2;rw[Ea5] at this;unfold figS;split
 ·exact ⟨Eah _,h,by simp,by simp⟩
 ·simp only;omega
theorem J61 {s:List UInt8} {i:Nat} (h:¬ (i<s.length/\at_ s i=91/\0<=(figS s (i+1)).1/\(figS s (i+1)).2<s.length/\at_ s (figS s (i+1)).2=93)):Juy s i=(Dv,0):=by
 unfold Juy;by_cases h1:i<s.length/\at_ s i=91
 ·rw[if_pos h1,if_neg (fun h2=>h ⟨h1.1,h1.2,h2⟩)]
 ·rw[if_neg h1]
theorem J5j {s:List UInt8} {i:Nat} (h:i<s.length/\at_ s i=91/\0<=(figS s (i+1)).1/\(figS s (i+1)).2<s.length/\at_ s (figS s (i+1)).2=93):Juy s i=(⟨true,[],(figS s (i+1)).1⟩,(figS s (i+1)).2+1 - i):=by
 unfold Juy;rw[if_pos ⟨h.1,h.2.1⟩,if_pos h.2.2]
theorem J5t (s:List UInt8) (i:Nat) (first:Bool) (hs:s.length<=1000000) (hi:i<=s.length) (hd:¬ (i<s.length/\at_ s i=46)):Det cx 192 [.p (.str s),.p (.int .i64 i),.p (.bool first)] [] (.tup [.agg (Js6 s i first).1.cells,.int .i64 (i+(Js6 s i first).2:Nat)]) []:=by
 have hf:(Bw (s.drop i)).2=0:=by unfold Bw;rw[if_neg (fun h=>hd (Jzd.1 h))]
 have e:Js6 s i first=if first=true then (Dv,0) else Juy s i:=by
  unfold Js6;rw[if_neg omg,if_neg (c:=(i<s.length/\at_ s i=46)/\_) (fun h=>hd h.1),if_neg hd]
 rw[e];cases first
 ·rw[if_neg sm];(refine bgo func192 ?_;simp only[go_sem,simprocAttr,wi1 (i:=i) omg]);(repeat'(first|(apply iteI<;>intro h)|refine Jqj ?_|((refine Jqa (J4z s (i+1) hs omg) ?_);simp only[go_sem,simprocAttr,wi1 (i:=i) omg])|(exfalso;omega)))
  all_goals first
   | (rw[J61 omg];exact ⟨rfl,rfl⟩)
   | (
    have hl:=J6v (s:=s) (i:=i+1) omg;rw[J5j omg,Aa omg omg];refine ⟨rfl,?_⟩;simp only;omega)
 ·(refine bgo func192 ?_;simp only[go_sem,simprocAttr,wi1 (i:=i) omg]);(repeat'(first|(apply iteI<;>intro h)|refine Jqj ?_|(exfalso;omega)))
  all_goals exact ⟨rfl,rfl⟩
theorem J92 (s:List UInt8) (i:Nat) (first:Bool) (hs:s.length<=1000000) (hi:i<s.length) (hd:at_ s i=46):Det cx 192 [.p (.str s),.p (.int .i64 i),.p (.bool first)] [] (.tup [.agg (Js6 s i first).1.cells,.int .i64 (i+(Js6 s i first).2:Nat)]) []:=by
 have hdot:=Jzd.2 ⟨hi,hd⟩;have hdr:(s.drop i).drop 1=s.drop (i+1):=by rw[Ebj]
 have hwl:=P3 (s.drop (i+1));have hlen:(s.drop (i+1)).length=s.length - (i+1):=Ea5;rw[hlen] at hwl;(refine bgo func192 ?_;simp only[go_sem,simprocAttr,wi1 (i:=i) omg]);(repeat'(first|(apply iteI<;>intro h)|refine Jqj ?_|(exfalso;omega)));refine SWP.loop (fun k:Nat=>⟨Ba 129 [(0,.p (.str s)),(1,.p (.int .i64 (i+1:Nat))),(2,.p (.bool first)),(6,.ptr 6 0 0),(8,.p (.int .i64 i)),(9,.p (.int .i64 (i+1+k:Nat)))],[(6,.var 63 [.p (.bool false),.p (.str []),.p (.int .i64 0)])]⟩) (fun k=>k<=Dm (s.drop (i+1))) (fun k=>Dm (s.drop (i+1)) - k) 0 Jqc (Eau _) ?_;intro k hk;have hsub:i+1+k+1 - (i+1)=k+1:=by omega
 have hw1:=wi1 (i:=i+1+k) omg;by_cases hlt:k<Dm (s.drop (i+1))
 ·have hW:decide (isWd ((s.drop (i+1)).take (k+1)))=true:=decide_eq_true ((Jz8 omg hk).2 hlt);(refine lws ?_;simp only[go_sem,simprocAttr,wi1 (i:=i) omg,hsub,hw1]);(repeat'(first|(apply iteI<;>intro h)|refine Jqj ?_|((refine Jqa (Jvl ((s.drop (i+1)).take (k+1)) (by rw[Eay];omega)) ?_);simp only[go_sem,simprocAttr,wi1 (i:=i) omg,hw1,hW])|(exfalso;omega)));exact ⟨k+1,omg,omg,Jqc⟩
 ·have hkw:k=Dm (s.drop (i+1)):=by omega
  by_cases hk0:0<k
  ·have ef:Bw (s.drop i)=(⟨false,(s.drop (i+1)).take k,0⟩,k+1):=by
    unfold Bw;rw[if_pos hdot,hdr,if_pos omg,hkw]
   have e:Js6 s i first=(⟨false,(s.drop (i+1)).take k,0⟩,k+1):=by
    unfold Js6;rw[ef,if_pos (Nat.succ_ne_zero _)]
   have hfin:([PV.bool false,PV.str (List.take (i+1+k - (i+1)) (List.drop (i+1) s)),PV.int IntKind.i64 0]=(Js6 s i first).1.cells/\((i+1+k:Nat):Int)=((i+(Js6 s i first).2:Nat):Int)):=by
    rw[e];refine ⟨?_,?_⟩
    ·rw[show i+1+k - (i+1)=k by omega];rfl
    ·simp only;omega
   by_cases hend:i+1+k<s.length
   ·have hW:decide (isWd ((s.drop (i+1)).take (k+1)))=false:=decide_eq_false (fun h=>hlt ((Jz8 omg hk).1 h));(refine lws ?_;simp only[go_sem,simprocAttr,wi1 (i:=i) omg,hsub,hw1]);(repeat'(first|(apply iteI<;>intro h)|refine Jqj ?_|((refine Jqa (Jvl ((s.drop (i+1)).take (k+1)) (by rw[Eay];omega)) ?_);simp only[go_sem,simprocAttr,wi1 (i:=i) omg,hW])|(exfalso;omega)));exact hfin
   ·have hW:=hw1;(refine lws ?_;simp only[go_sem,simprocAttr,wi1 (i:=i) omg,hsub,hw1]);(repeat'(first|(apply iteI<;>intro h)|refine Jqj ?_|(exfalso;omega)));exact hfin
  ·have hk1:k=0:=by omega
   subst hk1;have hdl:(s.drop (i+1)).length<=1000000:=by omega
   obtain ⟨u1,u2,u3⟩:=Jl8 (s.drop (i+1));rw[hlen] at u2 u3;have hsub:i+1+0+1 - (i+1)=1:=by omega
   have hsubq:i+1+(uq (s.drop (i+1))).2.1 - (i+1)=(uq (s.drop (i+1))).2.1:=by omega
   have hwq:=wia (i:=i+1) (j:=(uq (s.drop (i+1))).2.1) omg omg;have hG:(uq (s.drop (i+1))).2.2=0->¬ isWd (uq (s.drop (i+1))).1->refQ (uq (s.drop (i+1))).1=(s.drop (i+1)).take (uq (s.drop (i+1))).2.1->Js6 s i first=(⟨false,(uq (s.drop (i+1))).1,0⟩,(uq (s.drop (i+1))).2.1+1):=fun g1 g2 g3=>by
    have ef:Bw (s.drop i)=(⟨false,(uq (s.drop (i+1))).1,0⟩,(uq (s.drop (i+1))).2.1+1):=by
     unfold Bw;rw[if_pos hdot,hdr,if_neg omg,if_neg];rintro (h | h | h)
     ·exact h g1
     ·exact g2 h
     ·exact h g3
    unfold Js6;rw[ef,if_pos (Nat.succ_ne_zero _)]
   have hB:¬ ((uq (s.drop (i+1))).2.2=0/\¬ isWd (uq (s.drop (i+1))).1/\refQ (uq (s.drop (i+1))).1=(s.drop (i+1)).take (uq (s.drop (i+1))).2.1)->Js6 s i first=if first=true then (if (Juy s (i+1)).2≠0 then ((Juy s (i+1)).1,(Juy s (i+1)).2+1) else (Dv,0)) else (Dv,0):=fun hb=>by
    have ef:Bw (s.drop i)=(Dv,0):=by
     unfold Bw;rw[if_pos hdot,hdr,if_neg omg,if_pos];apply Ebu;intro hn;refine hb ⟨?_,?_,?_⟩
     ·exact Ebu fun h=>hn (.inl h)
     ·exact fun h=>hn (.inr (.inl h))
     ·exact Ebu fun h=>hn (.inr (.inr h))
    unfold Js6;rw[ef,if_neg (fun h=>h rfl),if_pos (c:=i<s.length/\at_ s i=46) ⟨hi,hd⟩];by_cases hp:(Juy s (i+1)).2≠0
    ·rw[if_pos hp,if_pos (c:=(i<s.length/\at_ s i=46)/\_) ⟨⟨hi,hd⟩,hp⟩]
    ·rw[if_neg hp,if_neg (c:=(i<s.length/\at_ s i=46)/\_) (fun h=>hp h.2)]
   have hB1:¬ ((uq (s.drop (i+1))).2.2=0/\¬ isWd (uq (s.drop (i+1))).1/\refQ (uq (s.drop (i+1))).1=(s.drop (i+1)).take (uq (s.drop (i+1))).2.1)->first=false->Js6 s i first=(Dv,0):=fun hb hf=>by rw[hB hb,hf,if_neg sm]
   have hB2:¬ ((uq (s.drop (i+1))).2.2=0/\¬ isWd (uq (s.drop (i+1))).1/\refQ (uq (s.drop (i+1))).1=(s.drop (i+1)).take (uq (s.drop (i+1))).2.1)->¬ first=false->¬ (i+1<s.length/\at_ s (i+1)=91/\0<=(figS s (i+1+1)).1/\(figS s (i+1+1)).2<s.length/\at_ s (figS s (i+1+1)).2=93)->Js6 s i first=(Dv,0):=fun hb hf h=>by
    rw[hB hb,J61 h];cases first<;>rfl
   have hB3:¬ ((uq (s.drop (i+1))).2.2=0/\¬ isWd (uq (s.drop (i+1))).1/\refQ (uq (s.drop (i+1))).1=(s.drop (i+1)).take (uq (s.drop (i+1))).2.1)->¬ first=false->(i+1<s.length/\at_ s (i+1)=91/\0<=(figS s (i+1+1)).1/\(figS s (i+1+1)).2<s.length/\at_ s (figS s (i+1+1)).2=93)->Js6 s i first=(⟨true,[],(figS s (i+1+1)).1⟩,(figS s (i+1+1)).2+1 - (i+1)+1):=fun hb hf h=>by
    have hl:=J6v (s:=s) (i:=i+1+1) omg;rw[hB hb,J5j h,if_pos (by cases first<;>simp_all),if_pos (by simp only;omega)]
   have hwi:IntKind.i64.wrap ((i+1:Nat)+1:Int)=((i+1+1:Nat):Int):=wi1 omg;by_cases hend:i+1+0<s.length
   ·have hW:decide (isWd ((s.drop (i+1)).take (0+1)))=false:=decide_eq_false (fun h=>hlt ((Jz8 omg hk).1 h));have hl:=J6v (s:=s) (i:=i+1+1) omg;(refine lws ?_;simp only[go_sem,simprocAttr,wi1 (i:=i) omg,hsub,hw1]);(repeat'(first|(apply iteI<;>intro h)|refine Jqj ?_|((first|refine Jqm ?_|(refine Jqa (Jvl ((s.drop (i+1)).take (0+1)) (by rw[Eay];omega)) ?_)|(refine Jqa (Jym (s.drop (i+1)) hdl) ?_)|(refine Jqb (Jvl (uq (s.drop (i+1))).1 omg) ?_)|(refine Jqb (J16 (uq (s.drop (i+1))).1 omg) ?_)|(refine Jqa (J4z s (i+1+0+1) hs omg) ?_));simp only[go_sem,simprocAttr,wi1 (i:=i) omg,hw1,hW,hsubq,hwq])|(exfalso;omega)))
    all_goals simp only[Nat.add_zero] at *
    all_goals first
     | (exfalso;omega)
     | (rw[hG omg (by assumption) (by assumption)];exact ⟨rfl,by simp only;omega⟩)
     | (rw[hB1 (fun ⟨a,b,c⟩=>by first|omega | (exact absurd b (by assumption))|(exact absurd c (by assumption))) (by assumption)];exact ⟨rfl,rfl⟩)
     | (rw[hB2 (fun ⟨a,b,c⟩=>by first|omega | (exact absurd b (by assumption))|(exact absurd c (by assumption))) (by assumption) omg];exact ⟨rfl,rfl⟩)
     | (rw[hB3 (fun ⟨a,b,c⟩=>by first|omega | (exact absurd b (by assumption))|(exact absurd c (by assumption))) (by assumption) omg,Aa omg omg];exact ⟨rfl,by simp only;omega⟩)
   ·have hW:=hw1;(refine lws ?_;simp only[go_sem,simprocAttr,wi1 (i:=i) omg,hsub,hw1]);(repeat'(first|(apply iteI<;>intro h)|refine Jqj ?_|((first|refine Jqm ?_|(refine Jqa (Jym (s.drop (i+1)) hdl) ?_)|(refine Jqb (Jvl (uq (s.drop (i+1))).1 omg) ?_)|(refine Jqb (J16 (uq (s.drop (i+1))).1 omg) ?_));simp only[go_sem,simprocAttr,wi1 (i:=i) omg,hw1,hsubq,hwq])|(exfalso;omega)))
    all_goals simp only[Nat.add_zero] at *
    all_goals first
     | (exfalso;omega)
     | (rw[hG omg (by assumption) (by assumption)];exact ⟨rfl,by simp only;omega⟩)
     | (rw[hB1 (fun ⟨a,b,c⟩=>by first|omega | (exact absurd b (by assumption))|(exact absurd c (by assumption))) (by assumption)];exact ⟨rfl,rfl⟩)
     | (rw[hB2 (fun ⟨a,b,c⟩=>by first|omega | (exact absurd b (by assumption))|(exact absurd c (by assumption))) (by assumption) omg];exact ⟨rfl,rfl⟩)
theorem d_step (s:List UInt8) (i:Nat) (first:Bool) (hs:s.length<=1000000) (hi:i<=s.length):Det cx 192 [.p (.str s),.p (.int .i64 i),.p (.bool first)] [] (.tup [.agg (Js6 s i first).1.cells,.int .i64 (i+(Js6 s i first).2:Nat)]) []:=by
 by_cases hd:i<s.length/\at_ s i=46
 ·exact J92 s i first hs hd.1 hd.2
 ·exact J5t s i first hs hi hd
theorem Kab {s:List UInt8} {i:Nat}:Js6 s i (decide (i=0))=Ee s i:=by
 unfold Js6 Ee;by_cases hf:(Bw (s.drop i)).2≠0
 ·rw[if_pos hf,if_pos hf]
 ·rw[if_neg hf,if_neg hf,Kbj,Kbj];by_cases hi:i=0
  ·rw[if_pos (decide_eq_true hi),if_pos hi];subst hi;have hd:=Jzd (s:=s) (i:=0);rw[Ebn] at hd;by_cases h1:s.take 1=[46]
   ·by_cases h2:(Ce (s.drop (0+1))).2≠0
    ·rw[if_pos ⟨hd.1 h1,h2⟩,if_pos ⟨h1,h2⟩]
    ·rw[if_neg (fun h=>h2 h.2),if_neg (fun h=>h2 h.2)]
   ·rw[if_neg (fun h=>h1 (hd.2 h.1)),if_neg (fun h=>h1 h.1)]
  ·rw[if_neg (fun h=>hi (of_decide_eq_true h)),if_neg hi];by_cases hdt:i<s.length/\at_ s i=46
   ·rw[if_pos hdt];refine (Jx5 ?_).symm;unfold Ce;rw[if_neg];rintro ⟨h,-⟩;rw[Jzd.2 hdt] at h;cases h
   ·rw[if_neg hdt]
theorem Kdn {s:List UInt8} {i:Nat} (h:s.length<=i):(Ee s i).2=0:=by
 have hd:s.drop i=[]:=Eao h;unfold Ee;have hf:Bw []=(Dv,0):=rfl;have hp:Ce []=(Dv,0):=rfl;rw[hd,hf,if_neg (fun h=>h rfl),hp];split
 ·have:s=[]:=Ean omg;subst this;rfl
 ·rfl
def begS (s:List UInt8):List Step×Nat:=if (Mp s).1.length=0/\s.take 1=[46] then ((Mp s).1,1) else Mp s
theorem J7g (s:List UInt8) (hs:s.length<=1000000):Det cx 150 [.p (.str s),.p (.int .i64 0)] [] (.tup [.sl (Bb (begS s).1),.int .i64 (begS s).2]) []:=by
 (refine bgo func150 ?_;simp only[go_sem,simprocAttr]);refine Jqg (B1 [(10,30)] _ sm) ?_;simp only[go_sem,simprocAttr];refine SWP.loop (fun x:Nat×Nat×List Step=>⟨Ba 52 [(0,.p (.str s)),(1,.p (.int .i64 x.1)),(6,.own 30 0 x.2.2.length),(7,.p (.int .i64 0))],[(30,.row 63 3 (Bb x.2.2))]⟩) (fun x=>x.1<=s.length/\s.length+1<=x.1+x.2.1/\x.2.2.length<=20/\(x.2.2.length=0 ↔ x.1=0)/\Fl s x.2.1 x.1 x.2.2=Mp s) (fun x=>s.length - x.1) (0,s.length+1,[]) (by rw[show Bb []=[] from rfl];exact Jqc) ⟨Eau _,by simp,by simp,by simp,rfl⟩ ?_;rintro ⟨i,f,p⟩ ⟨h1,h2,h3,h5,h4⟩;simp only at h1 h2 h3 h4 h5;have hstep:=d_step s i (decide (i=0)) hs h1;rw[Kab] at hstep;have hnl:=Jzk h1;have hfd:((p.length:Int) == 0)=decide (i=0):=by
  rw[Ea4,beq_iff_eq,decide_eq_true_eq];omega
 have htk:(Bb p).take p.length=Bb p:=Eae sm;have hbeg:Fl s f i p=(p,i)->begS s=if p.length=0/\s.take 1=[46] then (p,1) else (p,i):=fun h=>by
  rw[h] at h4;unfold begS;rw[<- h4]
 have hdot:=Jzd (s:=s) (i:=0);rw[Ebn] at hdot;by_cases hc:p.length<20
 ·by_cases hn:(Ee s i).2=0
  ·have hst:Fl s f i p=(p,i):=Gv fun h=>h.2.2 hn
   have hb:=hbeg hst;have hw:=hn;have hel:=hfd;(refine lws ?_;simp only[go_sem,simprocAttr,Aq,htk,Eah,hel]);(repeat'(first|(apply iteI<;>intro h)|refine Jqj ?_|((refine Jqa hstep ?_);simp only[go_sem,simprocAttr,Aq,htk,Eah,Step.cells,hel,hw])|(exfalso;omega)))
   ·rw[hb,if_pos ⟨omg,hdot.2 ⟨omg,omg⟩⟩];exact ⟨rfl,rfl⟩
   ·rw[hb,if_neg (fun h=>by have:=(hdot.1 h.2).2;omega)];exact ⟨rfl,rfl⟩
   ·rw[hb,if_neg (fun h=>by have:=(hdot.1 h.2).1;omega)];exact ⟨rfl,rfl⟩
   ·rw[hb,if_neg (fun h=>by omega)];exact ⟨rfl,rfl⟩
  ·obtain ⟨g,rfl⟩:∃ g,f=g+1:=⟨f - 1,omg⟩
   have hil:i<s.length:=Ebu fun h=>hn (Kdn omg)
   rw[Fl,if_pos ⟨hil,hc,hn⟩] at h4;have hel:Bb p ++ [[.bool (Ee s i).1.part,.str (Ee s i).1.name,.int .i64 (Ee s i).1.n]]=Bb (p ++ [(Ee s i).1]):=by rw[Kn];rfl
   have hw:=hfd;(refine lws ?_;simp only[go_sem,simprocAttr,Aq,htk,Eah,hfd]);(repeat'(first|(apply iteI<;>intro h)|refine Jqj ?_|((refine Jqa hstep ?_);simp only[go_sem,simprocAttr,Aq,htk,Eah,Step.cells,hel,hfd])|(exfalso;omega)));refine ⟨by simp,omg,omg,(i+(Ee s i).2,g,p ++ [(Ee s i).1]),⟨?_,?_,?_,?_,h4⟩,?_,?_⟩
   ·simp only;omega
   ·simp only;omega
   ·simp only[Eac,Ebs];omega
   ·simp only[Eac,Ebs];constructor
    ·intro h;omega
    ·intro h;omega
   ·simp only;omega
   simp only[Eac,Ebs];exact Jqc
 ·have hst:Fl s f i p=(p,i):=Gv fun h=>hc h.2.1
  have hb:=hbeg hst;have hw:=hfd;have hel:=hfd;(refine lws ?_;simp only[go_sem,simprocAttr,Aq,htk,Eah,hel]);(repeat'(first|(apply iteI<;>intro h)|refine Jqj ?_|((refine Jqa hstep ?_);simp only[go_sem,simprocAttr,Aq,htk,Eah,Step.cells,hel])|(exfalso;omega)));rw[hb,if_neg omg];exact ⟨rfl,rfl⟩
theorem Ke6:begS [46]=([],1):=by
 have e:Mp [46]=([],0):=rfl;unfold begS;rw[e];rfl
theorem J5e {s:List UInt8}:∀ (f i:Nat) (p:List Step),i<=(Fl s f i p).2/\p.length<=(Fl s f i p).1.length/\((Fl s f i p).1.length=p.length->Fl s f i p=(p,i))
 | 0,i,p=>⟨Eah _,Eah _,fun _=>rfl⟩
 | f+1,i,p=>by
  rw[Fl];split
  ·have:=J5e (s:=s) f (i+(Ee s i).2) (p ++ [(Ee s i).1]);rw[Eac,Ebs] at this;exact ⟨omg,omg,fun h=>by omega⟩
  ·exact ⟨Eah _,Eah _,fun _=>rfl⟩
theorem J4g (s:List UInt8) (hs:s.length<=1000000):Det cx 112 [.p (.str s)] [] (.tup [.sl (Bb (Je s).1),.int .i64 (Je s).2.1,.int .i64 (Je s).2.2]) []:=by
 refine Det.weak ?_;by_cases hd:s=[46]
 ·subst hd;have hB:=J7g [46] de;rw[Ke6] at hB;(refine bgo func112 ?_;simp only[go_sem,simprocAttr]);(repeat'(first|((refine Jqa hB ?_);simp only[go_sem,simprocAttr])|fail));exact .inl rfl
 ·have hd':(s=[46])=False:=eq_false hd;have hB:=J7g s hs;have hnil:=(J5e (s:=s) (s.length+1) 0 []).2.2;have hR0:(Mp s).1.length=0->Mp s=([],0):=hnil;have hb0:(begS s).1.length=0->(Mp s).1.length=0:=fun h=>by
   unfold begS at h;split at h
   ·exact h
   ·exact h
  have hb1:¬ (begS s).1.length=0->begS s=Mp s:=fun h=>by
   unfold begS at h ⊢;split
   ·rename_i hc;rw[if_pos hc] at h;exact absurd hc.1 h
   ·rfl
  (refine bgo func112 ?_;simp only[go_sem,simprocAttr]);(repeat'(first|(apply iteI<;>intro h)|((refine Jqa hB ?_);simp only[go_sem,simprocAttr,hd',Aq])|fail))
  ·have h0:=hR0 (hb0 omg);have e:Je s=([],0,1):=by
    unfold Je;rw[if_neg hd,h0];rw[if_pos (.inr rfl)]
   rw[e];exact Jsf ⟨.nil,.refl _,.refl _,trivial⟩
  ·have hb:=hb1 omg;have hq:(begS s).2<s.length:=by omega
   rw[hb] at hq ⊢;have e:Je s=([],(Mp s).2,1):=by
    unfold Je;rw[if_neg hd,if_pos (.inl omg)]
   rw[e];exact Jsf ⟨.nil,.refl _,.refl _,trivial⟩
  ·have hb:=hb1 omg;have hq:¬ (begS s).2<s.length:=by omega
   have hq2:¬ (begS s).1.length=0:=by omega
   rw[hb] at hq hq2 ⊢;have e:Je s=((Mp s).1,0,0):=by
    unfold Je;rw[if_neg hd,if_neg omg]
   rw[e];exact .inl rfl
end Go.LX
