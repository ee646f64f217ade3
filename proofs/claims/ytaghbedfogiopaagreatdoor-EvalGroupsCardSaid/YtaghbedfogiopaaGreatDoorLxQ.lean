/- Paths: of the library: numbers as texts, valid UTF-8. -/
import Derived.Test.YtaghbedfogiopaaGreatDoorLxP
set_option linter.unusedSimpArgs false
set_option linter.unusedVariables false
set_option linter.unusedSectionVars false
set_option linter.unnecessarySimpa false
set_option maxRecDepth 100000
set_option maxHeartbeats 2000000
namespace Go.LX
open Go Go.RowKit Go.Proofs
attribute [local irreducible] Al SWP Bi
theorem N0 (n:Int) (h0:-9223372036854775808<=n) (h1:n<=9223372036854775807):Det cx 91 [.p (.int .i64 n)] [] (.p (.str (Lib.itoa n))) []:=by
 refine Jr1 (v:=.string ⟨⟨Lib.itoa n⟩⟩) (enters_of Tryz.func91 kr rfl) rfl (fun β w Im=>PRep.str _) fun β Im w vs hg hf=>?_
 obtain ⟨v,rfl,hv⟩:=fit1 hf;have:=Mz hv;subst this;refine (Tryz.strconv_Itoa n h0 h1 w (Jbj hg).pow).mono fun e w' ⟨h,k,os,hw⟩=>⟨h,?_⟩
 subst hw;exact ⟨rfl,rfl,rfl,by show w.heap.size<=(w.heap ++ os).size;rw [Array.size_append];omega,fun _ hj=>Sort.heap_grow_old (w.drewN k) os hj⟩
def Qh (s:List UInt8):L:=match Lib.atoiAll s with
 | .ok v=>.tup [.int .i64 v,.nifc]
 | .range=>.tup [.int .i64 (Lib.atoiSat s),.ifc]
 | _=>.tup [.int .i64 0,.ifc]
theorem tupP {β:Env} {w:World} {Im:Nat->Prop} {a b:Value} {x y:PV} (h1:PRep w Im a x) (h2:PRep w Im b y):LRep β w Im (.tuple #[a,b]) (.tup [x,y]) :=
 ⟨[
  a,b],rfl,rfl,fun i v p hi hp=>by
  match i,hi,hp with
  | 0,hi,hp=>simp at hi hp;subst hi;subst hp;exact h1
  | 1,hi,hp=>simp at hi hp;subst hi;subst hp;exact h2
  | i+2,hi,hp=>simp at hi⟩
theorem U9 (s:List UInt8) (hs:s.length<=1000000):Det cx 191 [.p (.str s)] [] (Qh s) []:=by
 refine Jw9 (enters_of Tryz.func191 kr rfl) fun β Im w vs hg hf=>?_
 obtain ⟨v,rfl,h1⟩:=fit1 hf;cases Ks h1;unfold Qh;cases ha:Lib.atoiAll s with
 | ok n =>
  refine (Tryz.strconv_Atoi_ok ⟨⟨s⟩⟩ (by show s.length<=_;omega) n ha w).mono fun e w' ⟨h,hw⟩=>⟨⟨_,h,fun β w Im=>tupP (.int _ _) .nifc⟩,?_⟩
  rcases hw with rfl | ⟨u,rfl⟩
  ·exact Below.refl _ _
  ·exact Lib.bytesWorld_below _ _ _
 | range =>
  obtain ⟨te,pe,he⟩:=(Jbj hg).rng;exact (Tryz.strconv_Atoi_range ⟨⟨s⟩⟩ (Nat.le_trans hs de) ha _ w he (.inr ⟨te,pe,rfl⟩)).mono fun e w' ⟨N,h,_,_,hb⟩=>⟨⟨_,h,fun β w Im=>tupP (.int _ _) (.ifc _ _)⟩,hb⟩
 | _ =>
  obtain ⟨te,pe,he⟩:=(Jbj hg).syn;exact (Any.strconv_Atoi_syntax Juq ⟨⟨s⟩⟩ (Nat.le_trans hs de) ha _ w he (.inr ⟨te,pe,rfl⟩)).mono fun e w' ⟨N,h,_,_,hb⟩=>⟨⟨_,h,fun β w Im=>tupP (.int _ _) (.ifc _ _)⟩,hb⟩
def letP (c:Nat):Prop:=(97<=c/\c<=122)\/(65<=c/\c<=90)\/c=95
instance (c:Nat):Decidable (letP c):=inferInstanceAs (Decidable (_\/_))
def figP (c:Nat):Prop:=48<=c/\c<=57
instance (c:Nat):Decidable (figP c):=inferInstanceAs (Decidable (_/\_))
def wF (s:List UInt8):Nat->Nat->Nat
 | 0,i=>i
 | f+1,i=>if i<s.length/\(letP (at_ s i)\/(0<i/\figP (at_ s i))) then wF s f (i+1) else i
def Dm (s:List UInt8):Nat:=wF s (s.length+1) 0
def isWd (s:List UInt8):Prop:=s≠[]/\Dm s=s.length
instance (s:List UInt8):Decidable (isWd s):=inferInstanceAs (Decidable (_/\_))
theorem wF_le (s:List UInt8):∀ f i,i<=s.length->i<=wF s f i/\wF s f i<=s.length
 | 0,i,h=>⟨Eai _,h⟩
 | f+1,i,h=>by
  rw [wF];split
  ·have:=wF_le s f (i+1) omg;omega
  ·exact ⟨Eai _,h⟩
theorem P3 (s:List UInt8):Dm s<=s.length:=(wF_le s _ 0 (Eav _)).2
theorem Rl (c:Nat):Det cx 208 [.p (.int .u8 c)] [] (.p (.bool (decide (letP c)))) []:=by
 (refine bgo Tryz.func208 ?_;simp only [go_sem,simprocAttr]);(repeat' (first|(apply iteI<;>intro h)|(exfalso;omega)))
 all_goals first | exact decide_eq_decide.2 (by unfold letP;omega) | exact (decide_eq_false (by unfold letP;omega)).symm | exact (decide_eq_true (by unfold letP;omega)).symm
theorem Rc (c:Nat):Det cx 209 [.p (.int .u8 c)] [] (.p (.bool (decide (figP c)))) []:=by
 (refine bgo Tryz.func209 ?_;simp only [go_sem,simprocAttr]);(repeat' (apply iteI <;> intro h))
 all_goals first | exact decide_eq_decide.2 (by unfold figP;omega) | exact (decide_eq_false (by unfold figP;omega)).symm | exact (decide_eq_true (by unfold figP;omega)).symm
theorem Nw (s:List UInt8) (hs:s.length<=1000000):Det cx 185 [.p (.str s)] [] (.p (.int .i64 (Dm s))) []:=by
 (refine bgo Tryz.func185 ?_;simp only [go_sem,simprocAttr]);refine SWP.loop (fun x:Nat×Nat=>⟨Ba 27 [(0,.p (.str s)),(3,.p (.int .i64 x.1))],[]⟩) (fun x=>x.1<=s.length/\s.length+1<=x.1+x.2/\wF s x.2 x.1=Dm s) (fun x=>s.length - x.1) (0,s.length+1) Jqc ⟨by simp,by simp,rfl⟩ ?_;rintro ⟨i,f⟩ ⟨h1,h2,h3⟩;simp only at h1 h2 h3;obtain ⟨g,rfl⟩:∃ g,f=g+1:=⟨f - 1,by omega⟩
 rw [wF] at h3;(refine lws ?_;simp only [go_sem,simprocAttr,wi1 (i:=i) omg]);(repeat' (first|(apply iteI<;>intro h)|refine Jqj ?_|((first|(refine Jqa (Rl _) ?_)|(refine Jqa (Rc _) ?_));simp only [go_sem,simprocAttr,wi1 (i:=i) omg])|fail))
 all_goals first
  | exact ⟨(i+1,g),⟨by simp only;omega,by simp only;omega,by simp only;rw [<- h3,if_pos ⟨by omega,.inl (by assumption)⟩]⟩,by simp only;omega,Jqc⟩
  | exact ⟨(i+1,g),⟨by simp only;omega,by simp only;omega,by simp only;rw [<- h3,if_pos ⟨by omega,.inr ⟨by omega,by assumption⟩⟩]⟩,by simp only;omega,Jqc⟩
  | (rw [<- h3,if_neg (fun hc=>by
    obtain ⟨c1,c2⟩:=hc;rcases c2 with c2 | ⟨c3,c2⟩
    ·first|(exfalso;omega) | contradiction
    ·first|(exfalso;omega) | contradiction)])
theorem Er (s:List UInt8) (hs:s.length<=1000000):Det cx 187 [.p (.str s)] [] (.p (.bool (decide (isWd s)))) []:=by
 (refine bgo Tryz.func187 ?_;simp only [go_sem,simprocAttr]);(repeat' (first|(apply iteI<;>intro h)|((refine Jqa (Nw s hs) ?_);simp only [go_sem,simprocAttr])|fail))
 ·have hne:s≠[]:=fun e=>by subst e;simp at *
  rw [Ea0,beq_iff_eq,decide_eq_true_eq];exact ⟨fun h=>⟨hne,by omega⟩,fun h=>by have:=h.2;omega⟩
 ·exact (decide_eq_false (fun h=>h.1 (Eal omg))).symm
theorem Jvl (s:List UInt8) (hs:s.length<=1000000):Det cx 59 [.p (.str s)] [] (.p (.bool (decide (isWd s)))) []:=by
 (refine bgo Tryz.func59 ?_;simp only [go_sem,simprocAttr]);refine SWP.loop (fun x:Nat×Nat=>⟨Ba 49 [(0,.p (.str s)),(3,.p (.int .i64 x.1))],[]⟩) (fun x=>x.1<=s.length/\s.length+1<=x.1+x.2/\wF s x.2 x.1=Dm s) (fun x=>s.length - x.1) (0,s.length+1) Jqc ⟨by simp,by simp,rfl⟩ ?_;rintro ⟨i,f⟩ ⟨h1,h2,h3⟩;simp only at h1 h2 h3;obtain ⟨g,rfl⟩:∃ g,f=g+1:=⟨f - 1,by omega⟩
 rw [wF] at h3;(refine lws ?_;simp only [go_sem,simprocAttr,wi1 (i:=i) omg]);(repeat' (first|(apply iteI<;>intro h)|refine Jqj ?_|(exfalso;omega)))
 all_goals first
  | exact ⟨(i+1,g),⟨by simp only;omega,by simp only;omega,by simp only;rw [<- h3,if_pos ⟨by omega,by unfold letP figP;omega⟩]⟩,by simp only;omega,Jqc⟩
  | (
   have hc:¬ (i<s.length/\(letP (at_ s i)\/(0<i/\figP (at_ s i)))):=by unfold letP figP;omega
   rw [if_neg hc] at h3;exact (decide_eq_false (fun hw=>by have:=hw.2;omega)).symm)
  | skip
 have hc:¬ (i<s.length/\(letP (at_ s i)\/(0<i/\figP (at_ s i)))):=fun h=>by have:=h.1;omega
 rw [if_neg hc] at h3;have hwl:Dm s=s.length:=by omega
 cases s with
 | nil=>simp [isWd]
 | cons c t =>
  have:isWd (c :: t):=⟨by simp,hwl⟩
  simp [this]
structure Step where
 part:Bool
 name:List UInt8
 n:Int
def Step.cells (x:Step):List PV:=[.bool x.part,.str x.name,.int .i64 x.n]
def Bb (p:List Step):List (List PV):=p.map Step.cells
@[simp] theorem Aq (p:List Step):(Bb p).length=p.length:=by simp [Bb]
theorem Dk {p:List Step} {i:Nat} {x:Step} (h:p[i]? = some x):(Bb p)[i]? = some [.bool x.part,.str x.name,.int .i64 x.n]:=by
 simp [Bb,h,Step.cells]
def Bc (x:Step):Prop:=if x.part=true then x.name=[]/\0<=x.n/\x.n<=1000000 else x.n=0/\valid x.name=true
instance (x:Step):Decidable (Bc x):=by unfold Bc;exact inferInstance
def E9 (p:List Step):Prop:=p.length<=20/\∀ x∈p,Bc x
instance (p:List Step):Decidable (E9 p):=inferInstanceAs (Decidable (_/\_))
def wrs (s:List UInt8):List UInt8:=s.flatMap fun c=>wr c.toNat
def refQ (s:List UInt8):List UInt8:=34 :: wrs s ++ [34]
theorem wr_le (c:Nat):(wr c).length<=6:=by
 unfold wr
 repeat' split
 all_goals simp
theorem Jlg (s:List UInt8):(wrs s).length<=6 * s.length:=by
 induction s with
 | nil=>simp [wrs]
 | cons c s ih =>
  have:=wr_le c.toNat;simp only [wrs,List.flatMap_cons,Eac,List.length_cons] at ih ⊢;omega
theorem Kfi {s:List UInt8} {i:Nat} (h:i<s.length):wrs (s.take (i+1))=wrs (s.take i) ++ wr (at_ s i):=by
 have e:s.take (i+1)=s.take i ++ [s[i]]:=by rw [Ea8,Eaa h];rfl
 rw [e];simp only [wrs,List.flatMap_append,List.flatMap_cons,List.flatMap_nil,Eaz,Ql h]
@[simp] theorem wrs_nil:wrs []=[]:=rfl
theorem J16 (s:List UInt8) (hs:s.length<=1000000):Det cx 60 [.p (.str s)] [] (.p (.str (refQ s))) []:=by
 (refine bgo Tryz.func60 ?_;simp only [go_sem,simprocAttr]);refine SWP.loop (fun i:Nat=>⟨Ba 19 [(0,.p (.str s)),(3,.p (.str (34 :: wrs (s.take i)))),(4,.p (.int .i64 i))],[]⟩) (fun i=>i<=s.length) (fun i=>s.length - i) 0 Jqc (Eav _) ?_;rintro i h1;have hw:=Jlg (s.take i);have hl:(s.take i).length<=s.length:=List.length_take_le' ..
 have hr:=wr_le (at_ s i);(refine lws ?_;simp only [go_sem,simprocAttr,wi1 (i:=i) omg]);(repeat' (first|(apply iteI<;>intro h)|refine Jqj ?_|((refine Jqa (Kcp _ (Fr s i)) ?_);simp only [go_sem,simprocAttr,wi1 (i:=i) omg])|fail))
 ·refine ⟨i+1,by omega,by omega,?_⟩;rw [Kfi omg];exact Jqc
 ·rw [Ead omg];rfl
def u4 (s:List UInt8):Int:=if 6<=s.length/\at_ s 0=92/\at_ s 1=117 then (match hexN ((s.drop 2).take 4) 0 with | some n=>(n:Int) | none=>-1) else -1
theorem Kgx (s:List UInt8) (i:Nat):u4 (s.drop i)=if i+6<=s.length/\at_ s i=92/\at_ s (i+1)=117 then (match hexN ((s.drop (i+2)).take 4) 0 with | some n=>(n:Int) | none=>-1) else -1:=by
 have e:(6<=(s.drop i).length/\at_ (s.drop i) 0=92/\at_ (s.drop i) 1=117)=(i+6<=s.length/\at_ s i=92/\at_ s (i+1)=117):=by
  simp only [Ea4,Ko,Nat.add_zero];apply propext;omega
 unfold u4;simp only [e,Ebg,Ecr 2 i]
theorem d_unit (s:List UInt8) (i:Nat) (hs:s.length<=1000000) (hi:i<=2000000):Det cx 275 [.p (.str s),.p (.int .i64 i)] [] (.p (.int .i64 (u4 (s.drop i)))) []:=by
 have hA:=Fr s i;have hB:=Fr s (i+1);(refine bgo Tryz.func275 ?_;simp only [go_sem,simprocAttr,wi1 (i:=i) omg,wi2 (i:=i) omg,wi6 (i:=i) omg]);rw [Kgx];(repeat' (first|(apply iteI<;>intro h)|refine Jqj ?_|fail))
 ·rw [if_neg omg]
 ·rw [if_neg omg]
 ·rw [if_neg omg]
 rw [if_pos omg];have hT:((s.drop (i+2)).take 4).length=4:=by simp;omega
 have hTa:∀ j,j<4->at_ ((s.drop (i+2)).take 4) j=at_ s (i+2+j):=fun j hj=>by
  rw [<- Ko];simp [at_,Eah,Eao,hj]
 generalize (s.drop (i+2)).take 4=T at *
 refine SWP.loop (fun x:Nat×Nat=>⟨Ba 77 [(0,.p (.str s)),(1,.p (.int .i64 i)),(5,.p (.int .i64 x.2)),(6,.p (.int .i64 (i+2+x.1:Nat)))],[]⟩) (fun x=>x.1<=4/\x.2<16 ^ x.1/\hexN (T.drop x.1) x.2=hexN T 0) (fun x=>4 - x.1) (0,0) Jqc ⟨by omega,by decide,rfl⟩ ?_;rintro ⟨j,n⟩ ⟨h1,h2,h3⟩;simp only at h1 h2 h3;have hP:j<4->n<4096:=fun h=>Ebd h2 (Nat.le_trans (Eco de (show j<=3 by omega)) de)
 have hS:j<4->∀ d<16,n * 16+d<16 ^ (j+1):=fun h d hd=>by rw [Nat.pow_succ];omega
 have hC:=Fr s (i+2+j);(refine lws ?_;simp only [go_sem,simprocAttr,wi1 (i:=i) omg,wi2 (i:=i) omg,wi6 (i:=i) omg,wi0 (c:=at_ s (i+2+j)) omg,wi1 (i:=i+2+j) omg]);(repeat' (first|(apply iteI<;>intro h)|refine Jqj ?_|(exfalso;omega)))
 all_goals first
  | (
   have hd:48<=at_ s (i+2+j)/\at_ s (i+2+j)<=57:=by omega
   have hv:hexv (at_ T j)=some (at_ s (i+2+j) - 48):=by rw [hTa j omg];unfold hexv;rw [if_pos omg]
   have hn:=hP omg;refine ⟨(j+1,n * 16+(at_ s (i+2+j) - 48)),⟨by simp only;omega,hS omg _ omg,?_⟩,by simp only;omega,Jqc⟩;simp only;rw [<- h3,Nn (i:=j) (n:=n) omg,hv])
  | (
   have hd:97<=at_ s (i+2+j)/\at_ s (i+2+j)<=102:=by omega
   have hv:hexv (at_ T j)=some (at_ s (i+2+j) - 87):=by rw [hTa j omg];unfold hexv;rw [if_neg omg,if_pos omg]
   have hn:=hP omg;refine ⟨(j+1,n * 16+(at_ s (i+2+j) - 87)),⟨by simp only;omega,hS omg _ omg,?_⟩,by simp only;omega,Jqc⟩;simp only;rw [<- h3,Nn (i:=j) (n:=n) omg,hv])
  | (
   have hd:65<=at_ s (i+2+j)/\at_ s (i+2+j)<=70:=by omega
   have hv:hexv (at_ T j)=some (at_ s (i+2+j) - 55):=by rw [hTa j omg];unfold hexv;rw [if_neg omg,if_neg omg,if_pos omg]
   have hn:=hP omg;refine ⟨(j+1,n * 16+(at_ s (i+2+j) - 55)),⟨by simp only;omega,hS omg _ omg,?_⟩,by simp only;omega,Jqc⟩;simp only;rw [<- h3,Nn (i:=j) (n:=n) omg,hv])
  | (
   have e:hexN T 0=none:=by
    rw [<- h3,Nn (i:=j) (n:=n) omg,hTa j omg,show hexv (at_ s (i+2+j))=none by unfold hexv;rw [if_neg omg,if_neg omg,if_neg omg]]
   rw [e])
  | (
   have e:hexN T 0=some n:=by
    rw [<- h3,Ear omg];rfl
   rw [e])
def Hr (c:Nat):Option Nat :=
 if c=34 then some 34 else if c=92 then some 92 else if c=47 then some 47 else if c=98 then some 8 else if c=102 then some 12 else if c=110 then some 10 else if c=114 then some 13 else if c=116 then some 9 else none
def escR (s:List UInt8):Int×Nat :=
 if s.length<2 then (0,0) else match Hr (at_ s 1) with
  | some r=>(r,2)
  | none=>if u4 s<0\/(56320<=u4 s/\u4 s<57344) then (0,0) else if u4 s<55296\/57344<=u4 s then (u4 s,6)
   else if u4 (s.drop 6)<56320\/57344<=u4 (s.drop 6) then (0,0) else (65536+(u4 s - 55296) * 1024+(u4 (s.drop 6) - 56320),12)
def escS (s:List UInt8):List UInt8×Nat:=if (escR s).2=0 then ([],0) else (utf (escR s).1,(escR s).2)
theorem Jee (s:List UInt8):-1<=u4 s/\u4 s<65536:=by
 unfold u4;split
 ·split
  ·rename_i n h;have:=We _ _ _ h;have hl:((s.drop 2).take 4).length=4:=by simp;omega
   rw [hl] at this;omega
  ·omega
 ·omega
theorem d_utf (n:Int) (h:Cy n):Det cx 276 [.p (.int .i64 n)] [] (.p (.str (utf n))) []:=by
 have h':=h;unfold Cy at h';(refine bgo Tryz.func276 ?_;simp only [go_sem,simprocAttr]);(repeat' (apply iteI <;> intro h))
 ·rw [utf,Nb omg];rfl
 ·rw [utf,Oc omg];simp (disch:=omega) only [Ecy,Ecz,Aa,Eat,Eb5]
 ·rw [utf,Nd omg];simp (disch:=omega) only [Ecy,Ecz,Aa,Eat,Eb5]
 ·rw [utf,Nk omg];simp (disch:=omega) only [Ecy,Ecz,Aa,Eat,Eb5]
theorem fl0:at_ [34,92,47,98,102,110,114,116] 0=34:=rfl
theorem fl1:at_ [34,92,47,98,102,110,114,116] 1=92:=rfl
theorem fl2:at_ [34,92,47,98,102,110,114,116] 2=47:=rfl
theorem fl3:at_ [34,92,47,98,102,110,114,116] 3=98:=rfl
theorem fl4:at_ [34,92,47,98,102,110,114,116] 4=102:=rfl
theorem fl5:at_ [34,92,47,98,102,110,114,116] 5=110:=rfl
theorem fl6:at_ [34,92,47,98,102,110,114,116] 6=114:=rfl
theorem fl7:at_ [34,92,47,98,102,110,114,116] 7=116:=rfl
theorem wk1:IntKind.i64.wrap 1=1:=by decide
theorem wk2:IntKind.i64.wrap 2=2:=by decide
theorem wk3:IntKind.i64.wrap 3=3:=by decide
theorem wk4:IntKind.i64.wrap 4=4:=by decide
theorem wk5:IntKind.i64.wrap 5=5:=by decide
theorem wk6:IntKind.i64.wrap 6=6:=by decide
theorem wk7:IntKind.i64.wrap 7=7:=by decide
theorem wk8:IntKind.i64.wrap 8=8:=by decide
theorem J9t {s:List UInt8} {i:Nat} (h:s.length<=i+1):escR (s.drop i)=(0,0):=by
 unfold escR;rw [if_pos (by rw [Ea4];omega)]
theorem Jtf {s:List UInt8} {i r:Nat} (h:i+1<s.length) (hr:Hr (at_ s (i+1))=some r):escR (s.drop i)=((r:Int),2):=by
 unfold escR;rw [if_neg (by rw [Ea4];omega),Ko,hr]
theorem Kc7 {s:List UInt8} {i:Nat} (h:i+1<s.length) (hr:Hr (at_ s (i+1))=none):escR (s.drop i) =
  if u4 (s.drop i)<0\/(56320<=u4 (s.drop i)/\u4 (s.drop i)<57344) then (0,0) else if u4 (s.drop i)<55296\/57344<=u4 (s.drop i) then (u4 (s.drop i),6)
   else if u4 (s.drop (i+6))<56320\/57344<=u4 (s.drop (i+6)) then (0,0) else (65536+(u4 (s.drop i) - 55296) * 1024+(u4 (s.drop (i+6)) - 56320),12):=by
 unfold escR;rw [if_neg (by rw [Ea4];omega),Ko,hr];simp only [Ebg]
theorem Jzy {s:List UInt8} (h:escR s=(0,0)):escS s=([],0):=by
 unfold escS;rw [h];rfl
theorem Ud {s:List UInt8} {r:Int} {n:Nat} (h:escR s=(r,n)) (hn:n≠0):escS s=(utf r,n):=by
 unfold escS;rw [h];simp [hn]
theorem J84 (s:List UInt8) (i:Nat) (hs:s.length<=1000000) (hi:i<s.length):Det cx 270 [.p (.str s),.p (.int .i64 i)] [] (.tup [.str (escS (s.drop i)).1,.int .i64 (escS (s.drop i)).2]) []:=by
 have hB:=Fr s (i+1);obtain ⟨hu1,hu2⟩:=Jee (s.drop i);obtain ⟨hv1,hv2⟩:=Jee (s.drop (i+6));have z1:=Aa (n:=u4 (s.drop i) - 55296) omg omg;have z2:=Aa (n:=1024 * (u4 (s.drop i) - 55296)) omg omg;have z3:=Aa (n:=65536+1024 * (u4 (s.drop i) - 55296)) omg omg;have z4:=Aa (n:=65536+1024 * (u4 (s.drop i) - 55296)+u4 (s.drop (i+6))) omg omg;have z5:=Aa (n:=65536+1024 * (u4 (s.drop i) - 55296)+u4 (s.drop (i+6)) - 56320) omg omg;(refine bgo Tryz.func270 ?_;simp only [go_sem,simprocAttr,wi1 (i:=i) omg,wi6 (i:=i) omg]);(repeat' (apply iteI <;> intro h))
 ·rw [Jzy (J9t omg)];exact ⟨rfl,rfl⟩
 (refine SWP.rounds 9 ?_;refine Jss hm ?_;simp only [go_sem,simprocAttr,wi1 (i:=i) omg,wi6 (i:=i) omg]);(repeat' (first|(apply iteI<;>intro h)|refine Jqj ?_|((first|refine Jqm ?_|(refine Jqa (d_unit s _ hs omg) ?_)|(refine Jqa (d_utf _ (by unfold Cy;omega)) ?_));simp only [go_sem,simprocAttr,wi1 (i:=i) omg,wi6 (i:=i) omg,fl0,fl1,fl2,fl3,fl4,fl5,fl6,fl7,wk1,wk2,wk3,wk4,wk5,wk6,wk7,wk8,z1,z2,z3,z4,z5])|(refine Jss hm ?_;simp only [go_sem,simprocAttr,wi1 (i:=i) omg,wi6 (i:=i) omg])|(exfalso;omega)))
 ·rw [Ud (Jtf (r:=34) omg (by unfold Hr;(repeat (first|rw [if_pos omg] | rw [if_neg omg])))) de];exact ⟨rfl,rfl⟩
 ·rw [Ud (Jtf (r:=92) omg (by unfold Hr;(repeat (first|rw [if_pos omg] | rw [if_neg omg])))) de];exact ⟨rfl,rfl⟩
 ·rw [Ud (Jtf (r:=47) omg (by unfold Hr;(repeat (first|rw [if_pos omg] | rw [if_neg omg])))) de];exact ⟨rfl,rfl⟩
 ·rw [Ud (Jtf (r:=8) omg (by unfold Hr;(repeat (first|rw [if_pos omg] | rw [if_neg omg])))) de];exact ⟨rfl,rfl⟩
 ·rw [Ud (Jtf (r:=12) omg (by unfold Hr;(repeat (first|rw [if_pos omg] | rw [if_neg omg])))) de];exact ⟨rfl,rfl⟩
 ·rw [Ud (Jtf (r:=10) omg (by unfold Hr;(repeat (first|rw [if_pos omg] | rw [if_neg omg])))) de];exact ⟨rfl,rfl⟩
 ·rw [Ud (Jtf (r:=13) omg (by unfold Hr;(repeat (first|rw [if_pos omg] | rw [if_neg omg])))) de];exact ⟨rfl,rfl⟩
 ·rw [Ud (Jtf (r:=9) omg (by unfold Hr;(repeat (first|rw [if_pos omg] | rw [if_neg omg])))) de];exact ⟨rfl,rfl⟩
 all_goals have hsr:Hr (at_ s (i+1))=none:=by unfold Hr;(repeat (first|rw [if_pos omg] | rw [if_neg omg]))
 all_goals have hn:=Kc7 (s:=s) (i:=i) omg hsr
 all_goals first
  | (rw [if_pos omg] at hn;rw [Jzy hn];exact ⟨rfl,rfl⟩)
  | (rw [if_neg omg,if_pos omg] at hn;rw [Ud hn de];exact ⟨rfl,rfl⟩)
  | (rw [if_neg omg,if_neg omg,if_pos omg] at hn;rw [Jzy hn];exact ⟨rfl,rfl⟩)
  | (rw [if_neg omg,if_neg omg,if_neg omg] at hn;rw [Ud hn de];refine ⟨?_,rfl⟩;simp only;congr 1;omega)
def tk (s:List UInt8) (i:Nat):List UInt8×Nat:=if at_ s i=92 then escS (s.drop i) else ((s.drop i).take (rlen s i),rlen s i)
def uqF (s:List UInt8):Nat->Nat->List UInt8->List UInt8×Nat×Nat
 | 0,_,_=>([],s.length,1)
 | f+1,i,out=>if i<s.length then (if at_ s i=34 then (out,i+1,0) else if (tk s i).2=0\/at_ s i<32 then ([],i,1) else uqF s f (i+(tk s i).2) (out ++ (tk s i).1)) else ([],s.length,1)
def uq (s:List UInt8):List UInt8×Nat×Nat:=if s.length=0\/at_ s 0≠34 then ([],0,1) else uqF s (s.length+1) 1 []
theorem Jd0 (s:List UInt8):(escR s).2<=12/\(s.length<(escR s).2->(escR s).2=0):=by
 have key:∀ s:List UInt8,0<=u4 s->6<=s.length:=fun s h=>by
  unfold u4 at h;split at h
  ·rename_i h6;exact h6.1
  ·omega
 unfold escR;split
 ·exact ⟨by decide,fun _=>rfl⟩
 ·split
  ·exact ⟨by simp only;omega,fun h=>by simp only at h;omega⟩
  ·split
   ·exact ⟨by decide,fun _=>rfl⟩
   ·split
    ·exact ⟨by simp only;omega,fun h=>by have:=key s omg;simp only at h;omega⟩
    ·split
     ·exact ⟨by decide,fun _=>rfl⟩
     ·exact ⟨by simp only;omega,fun h=>by
       have h1:=key (s.drop 6) omg;rw [Ea4] at h1;simp only at h;omega⟩
theorem Jpb (s:List UInt8):(escS s).1.length<=4/\(escS s).2<=12/\(escS s).2<=s.length:=by
 have h:=Jd0 s;unfold escS;split
 ·exact ⟨by decide,by decide,Eav _⟩
 ·exact ⟨Od _,h.1,by rename_i hn;simp only;omega⟩
theorem tk_le (s:List UInt8) (i:Nat) (h:i<s.length):(tk s i).1.length<=4/\(tk s i).2<=12/\i+(tk s i).2<=s.length:=by
 unfold tk;split
 ·have h1:=Jpb (s.drop i);rw [Ea4] at h1;exact ⟨h1.1,h1.2.1,by omega⟩
 ·have h1:=M4 s i h;have h2:=Qv s i;exact ⟨by simp;omega,by simp only;omega,h1⟩
theorem Kgt (s:List UInt8) (i:Nat) (hs:s.length<=1000000) (hi:i<s.length):Det cx 252 [.p (.str s),.p (.int .i64 i)] [] (.tup [.str (tk s i).1,.int .i64 (tk s i).2]) []:=by
 have h4:=Qv s i;have h5:=M4 s i hi;(refine bgo Tryz.func252 ?_;simp only [go_sem,simprocAttr,wia (i:=i) (j:=rlen s i) omg omg]);(repeat' (first|(apply iteI<;>intro h)|refine Jqj ?_|((first|(refine Jqa (J84 s i hs hi) ?_)|(refine Jqa (Jkd s i hs hi) ?_));simp only [go_sem,simprocAttr,wia (i:=i) (j:=rlen s i) omg omg])|fail))
 ·unfold tk;rw [if_pos omg];exact ⟨rfl,rfl⟩
 ·unfold tk;rw [if_neg omg,Ecp];exact ⟨rfl,rfl⟩
theorem Jym (s:List UInt8) (hs:s.length<=1000000):Det cx 220 [.p (.str s)] [] (.tup [.str (uq s).1,.int .i64 (uq s).2.1,.int .i64 (uq s).2.2]) []:=by
 (refine bgo Tryz.func220 ?_;simp only [go_sem,simprocAttr]);(repeat' (first|(apply iteI<;>intro h)|refine Jqj ?_|fail))
 ·unfold uq;rw [if_pos omg];exact ⟨rfl,rfl,rfl⟩
 ·unfold uq;rw [if_pos omg];exact ⟨rfl,rfl,rfl⟩
 have e:uq s=uqF s (s.length+1) 1 []:=by unfold uq;rw [if_neg omg]
 refine SWP.loop (fun x:Nat×Nat×List UInt8=>⟨Ba 50 [(0,.p (.str s)),(5,.p (.str x.2.2)),(6,.p (.int .i64 x.1))],[]⟩) (fun x=>1<=x.1/\x.1<=s.length/\s.length+1<=x.1+x.2.1/\x.2.2.length<=4 * x.1/\uqF s x.2.1 x.1 x.2.2=uq s) (fun x=>s.length - x.1) (1,s.length+1,[]) Jqc ⟨by simp,by simp only;omega,by simp,by simp,e.symm⟩ ?_;rintro ⟨i,f,out⟩ ⟨h0,h1,h2,h3,h4⟩;simp only at h0 h1 h2 h3 h4;obtain ⟨g,rfl⟩:∃ g,f=g+1:=⟨f - 1,by omega⟩
 by_cases hlt:¬ i<s.length
 ·(refine lws ?_;simp only [go_sem,simprocAttr]);(repeat' (first|(apply iteI<;>intro h)|refine Jqj ?_|(exfalso;omega)));rw [<- h4,uqF,if_neg hlt];exact ⟨rfl,rfl,rfl⟩
 ·have hlt:=Ea1.1 hlt;have ht:=tk_le s i hlt;(refine lws ?_;simp only [go_sem,simprocAttr,wi1 (i:=i) omg,wia (i:=i) (j:=(tk s i).2) omg omg]);(repeat' (first|(apply iteI<;>intro h)|refine Jqj ?_|((refine Jqa (Kgt s i hs hlt) ?_);simp only [go_sem,simprocAttr,wi1 (i:=i) omg,wia (i:=i) (j:=(tk s i).2) omg omg])|(exfalso;omega)))
  ·rw [<- h4,uqF,if_pos hlt,if_pos omg];exact ⟨rfl,rfl,rfl⟩
  ·rw [<- h4,uqF,if_pos hlt,if_neg omg,if_pos omg];exact ⟨rfl,rfl,rfl⟩
  ·rw [<- h4,uqF,if_pos hlt,if_neg omg,if_pos omg];exact ⟨rfl,rfl,rfl⟩
  ·refine ⟨(i+(tk s i).2,g,out ++ (tk s i).1),⟨by simp only;omega,by simp only;omega,by simp only;omega,by simp only [Eac];omega,?_⟩,by simp only;omega,Jqc⟩;simp only;rw [<- h4,uqF,if_pos hlt,if_neg omg,if_neg omg]
theorem pre2 {s:List UInt8} (h:6<=s.length):s.take 2=[92,117] ↔ at_ s 0=92/\at_ s 1=117:=by
 match s,h with
 | a :: b :: t,_ =>
  simp only [List.take_succ_cons,List.take_zero,Ecu,and_true,Gu,Jk0];constructor
  ·rintro ⟨rfl,rfl⟩;exact ⟨rfl,rfl⟩
  ·rintro ⟨h1,h2⟩;exact ⟨UInt8.toNat_inj.1 h1,UInt8.toNat_inj.1 h2⟩
theorem Fk (s:List UInt8) (hs:s.length<=1000000):Det cx 243 [.p (.str s)] [] (.p (.int .i64 (u4 s))) []:=by
 by_cases h6:s.length<6
 ·rw [show u4 s = -1 by unfold u4;rw [if_neg omg]];(refine bgo Tryz.func243 ?_;simp only [go_sem,simprocAttr]);(repeat' (first|(apply iteI<;>intro h)|(exact True.intro)|(exfalso;omega)))
 have hT:((s.drop 2).take 4).length=4:=by simp;omega
 have hp:=Zn _ hT;have hca:=Sq _ hT;have hu:u4 s=if at_ s 0=92/\at_ s 1=117 then (match hexN ((s.drop 2).take 4) 0 with | some n=>(n:Int) | none=>-1) else -1:=by
  unfold u4;by_cases hq:at_ s 0=92/\at_ s 1=117
  ·rw [if_pos hq,if_pos ⟨by omega,hq⟩] <;> rfl
  ·rw [if_neg hq,if_neg (fun h=>hq h.2)]
 have hmk:0<=iaF ((s.drop 2).take 4) 5 0->hexN ((s.drop 2).take 4) 0=none:=fun h=>by
  obtain ⟨k,h1,h2⟩:=Y5 _ _ _ h;exact S4 _ _ k h1 h2
 generalize hTT:(s.drop 2).take 4=T at *
 cases hx:hexN T 0 with
 | none =>
  rw [hx] at hp hu;simp only [Vk,ite_self] at hp hu;rw [hu];(refine bgo Tryz.func243 ?_;simp only [go_sem,simprocAttr]);(repeat' (first|(apply iteI<;>intro h)|refine Jqj ?_|((first|(refine Jqa (Bj s _ hs de) ?_)|refine Jqa hca ?_|refine Jqa hp ?_);simp only [go_sem,simprocAttr,hTT])|(exact True.intro)))
  all_goals first
   | (rw [hu,if_neg (by rw [<- pre2 omg];assumption)])
   | (rw [hu,if_pos (by rw [<- pre2 omg];simp_all)])
 | some n =>
  have hia:¬ 0<=iaF T 5 0:=fun h=>by rw [hmk h] at hx;cases hx
  have hn:=We _ _ _ hx;rw [hT] at hn;have hwn:=wi0 (c:=n) omg;rw [hx] at hp hu;simp only [Vk] at hp hu;(refine bgo Tryz.func243 ?_;simp only [go_sem,simprocAttr]);(repeat' (first|(apply iteI<;>intro h)|refine Jqj ?_|((first|(refine Jqa (Bj s _ hs de) ?_)|refine Jqa hca ?_|refine Jqa hp ?_);simp only [go_sem,simprocAttr,hTT,hTT,hwn])|(exfalso;omega)))
  all_goals first
   | (rw [hu,if_neg (by rw [<- pre2 omg];assumption)])
   | (rw [hu,if_pos (by rw [<- pre2 omg];simp_all)])
theorem Pf (c:Nat):(Hr c=none/\Cl (.int .u8 c) Ei 0=some none)\/∃ i r,Hr c=some r/\r<=92/\Cl (.int .u8 c) Ei 0=some (some (i,.int .i32 r)):=by
 have key:∀ (b:Int) (v:PV) (es:List (PV×PV)) (i:Nat),Cl (.int .u8 c) ((.int .u8 b,v) :: es) i=if (c:Int)=b then some (some (i,v)) else Cl (.int .u8 c) es (i+1):=fun b v es i=>by
  by_cases h:(c:Int)=b
  ·simp [Cl,Lc,h]
  ·have:((c:Int) == b)=false:=by simp [h]
   simp [Cl,Lc,this,h]
 unfold Hr Ei;simp only [key];have hc:∀ b:Nat,((c:Int)=(b:Int))=(c=b):=fun b=>by apply propext;omega
 have e1:=hc 34;have e2:=hc 92;have e3:=hc 47;have e4:=hc 98;have e5:=hc 102;have e6:=hc 110;have e7:=hc 114;have e8:=hc 116;simp only [Int.cast_ofNat_Int] at e1 e2 e3 e4 e5 e6 e7 e8;simp only [e1,e2,e3,e4,e5,e6,e7,e8];by_cases h1:c=34
 ·exact .inr ⟨0,34,by simp [h1],by decide,by simp [h1]⟩
 by_cases h2:c=92
 ·exact .inr ⟨1,92,by simp [h2],by decide,by simp [h2]⟩
 by_cases h3:c=47
 ·exact .inr ⟨2,47,by simp [h3],by decide,by simp [h3]⟩
 by_cases h4:c=98
 ·exact .inr ⟨3,8,by simp [h4],by decide,by simp [h4]⟩
 by_cases h5:c=102
 ·exact .inr ⟨4,12,by simp [h5],by decide,by simp [h5]⟩
 by_cases h6:c=110
 ·exact .inr ⟨5,10,by simp [h6],by decide,by simp [h6]⟩
 by_cases h7:c=114
 ·exact .inr ⟨6,13,by simp [h7],by decide,by simp [h7]⟩
 by_cases h8:c=116
 ·exact .inr ⟨7,9,by simp [h8],by decide,by simp [h8]⟩
 ·refine .inl ⟨by simp [*],?_⟩;rw [if_neg h1,if_neg h2,if_neg h3,if_neg h4,if_neg h5,if_neg h6,if_neg h7,if_neg h8];rfl
theorem u4_six {s:List UInt8} (h:0<=u4 s):6<=s.length:=by
 unfold u4 at h;split at h
 ·rename_i h6;exact h6.1
 ·omega
theorem Mv (s:List UInt8) (hs:s.length<=1000000):Det cx 211 [.p (.str s)] [] (.tup [.int .i32 (escR s).1,.int .i64 (escR s).2]) []:=by
 obtain ⟨hu1,hu2⟩:=Jee s;obtain ⟨hv1,hv2⟩:=Jee (s.drop 6);have hB:=Fr s 1;have h66:0<=u4 s->6<=s.length:=u4_six;rcases (Pf (at_ s 1)).symm with ⟨i,r,hsr,hr,hmf⟩ | ⟨hsr,hmf⟩
 ·(refine bgo Tryz.func211 ?_;simp only [go_sem,simprocAttr]);(repeat' (first|(apply iteI<;>intro h)|refine Jqj ?_|((first|refine Jqm ?_|refine Jqb Kl ?_);simp only [go_sem,simprocAttr,hmf])|fail))
  ·unfold escR;rw [if_pos omg];exact ⟨rfl,rfl⟩
  ·unfold escR;rw [if_neg omg,hsr];exact ⟨rfl,rfl⟩
 ·have z0:=Qs (n:=u4 s) omg omg;have z1:=Aa (n:=u4 s - 55296) omg omg;have z2:IntKind.i64.wrap ((u4 s - 55296) * 2 ^ min 10 (B0 .i64))=(u4 s - 55296) * 1024:=Aa (n:=(u4 s - 55296) * 1024) omg omg;have z3:=Aa (n:=65536+(u4 s - 55296) * 1024) omg omg;have z4:=Aa (n:=65536+(u4 s - 55296) * 1024+u4 (s.drop 6)) omg omg;have z5:=Aa (n:=65536+(u4 s - 55296) * 1024+u4 (s.drop 6) - 56320) omg omg;have z6:=Qs (n:=65536+(u4 s - 55296) * 1024+u4 (s.drop 6) - 56320) omg omg;(refine bgo Tryz.func211 ?_;simp only [go_sem,simprocAttr]);(repeat' (first|(apply iteI<;>intro h)|refine Jqj ?_|((first|refine Jqm ?_|refine Jqb Kl ?_|(refine Jqa (Fk _ hs) ?_)|(refine Jqa (Fk (s.drop 6) (by simp;omega)) ?_));simp only [go_sem,simprocAttr,hmf,hmf,z0,z1,z2,z3,z4,z5,z6])|(exfalso;omega)))
  ·unfold escR;rw [if_pos omg];exact ⟨rfl,rfl⟩
  all_goals (unfold escR;rw [if_neg omg,hsr];simp only)
  all_goals ((repeat' split) <;> first|(exfalso;omega)|(exact ⟨rfl,rfl⟩)|(refine ⟨?_,rfl⟩;simp only;omega))
theorem Gq {s:List UInt8} {i:Nat} (h:rlen s i≠0):(code s i<128 ↔ at_ s i<128)/\(at_ s i<128->code s i=at_ s i):=by
 have h0:=Fr s i;rcases Fd s i with e | ⟨e,g1⟩ | ⟨e,g1,g2,g3⟩ | ⟨e,g1,g2,g3,g4,g5,g6⟩ | ⟨e,g1,g2,g3,g4,g5,g6,g7⟩
 ·exact absurd e h
 ·have ec:code s i=at_ s i:=by unfold code;rw [if_pos g1]
  omega
 ·have ec:code s i=at_ s i % 32 * 64+at_ s (i+1) % 64:=by unfold code;rw [if_neg omg,if_pos omg]
  omega
 ·have ec:code s i=at_ s i % 16 * 4096+at_ s (i+1) % 64 * 64+at_ s (i+2) % 64:=by unfold code;rw [if_neg omg,if_neg omg,if_pos omg]
  omega
 ·have ec:code s i=at_ s i % 8 * 262144+at_ s (i+1) % 64 * 4096+at_ s (i+2) % 64 * 64+at_ s (i+3) % 64:=by unfold code;rw [if_neg omg,if_neg omg,if_neg omg]
  omega
theorem Q4 {s:List UInt8} {i:Nat}:rlen s i=1 ↔ at_ s i<128:=by
 rcases Fd s i with e | ⟨e,g1⟩ | ⟨e,g1,g2,g3⟩ | ⟨e,g1,g2,g3,g4,g5,g6⟩ | ⟨e,g1,g2,g3,g4,g5,g6,g7⟩
 ·constructor
  ·omega
  ·intro h;unfold rlen at e;rw [if_pos h] at e;cases e
 all_goals omega
theorem Jgy {s:List UInt8} {i:Nat} (h:i<s.length) (hr:rlen s i=0):K3 (s.drop i)=(65533,1):=by
 unfold K3;rw [if_neg (by rw [Ea4];omega),Qy,Nat.add_zero,F1,if_pos hr]
theorem Jcl {s:List UInt8} {i:Nat} (h:i<s.length) (hr:rlen s i≠0):K3 (s.drop i)=(code s i,rlen s i):=by
 unfold K3;rw [if_neg (by rw [Ea4];omega),Qy,Nat.add_zero,F1,if_neg hr]
theorem O6 {s:List UInt8} (h:(escR s).2≠0):Cy (escR s).1:=by
 have h1:=Jee s;have h2:=Jee (s.drop 6);unfold escR at h ⊢;unfold Cy;split at h
 ·exact absurd rfl h
 ·rename_i hl;rw [if_neg hl];split at h
  ·rename_i r hr;have:r<=92:=by rcases Pf (at_ s 1) with ⟨e,_⟩ | ⟨i,r',e,hr',_⟩ <;> rw [hr] at e <;> cases e;exact hr'
   simp only;omega
  ·split at h
   ·exact absurd rfl h
   ·rename_i g1;rw [if_neg g1];split at h
    ·rename_i g2;rw [if_pos g2];simp only;omega
    ·rename_i g2;rw [if_neg g2];split at h
     ·exact absurd rfl h
     ·rename_i g3;rw [if_neg g3];simp only;omega
theorem I4 (r:Int):1<=(utf r).length:=by
 rw [D6];unfold utfC
 repeat' split
 all_goals simp
def uqSt (i:Nat) (s:List UInt8):List UInt8->St
 | []=>⟨Ba 60 [(0,.p (.str s)),(5,.ptr 5 0 0),(6,.p (.int .i64 i))],[(5,.var 206 [.p .nptr,.p .snil])]⟩
 | c :: t=>⟨Ba 60 [(0,.p (.str s)),(5,.ptr 5 0 0),(6,.p (.int .i64 i))],[(54,.row 5 1 (bstr (c :: t))),(5,.var 206 [.ptr 5 0 0,.own 54 0 (c :: t).length])]⟩
theorem Ik {i:Nat} {s out:List UInt8} (h:out≠[]):uqSt i s out=⟨Ba 60 [(0,.p (.str s)),(5,.ptr 5 0 0),(6,.p (.int .i64 i))],[(54,.row 5 1 (bstr out)),(5,.var 206 [.ptr 5 0 0,.own 54 0 out.length])]⟩:=by
 cases out with
 | nil=>exact absurd rfl h
 | cons c t=>rfl
theorem Rm {i:Nat} {s:List UInt8}:uqSt i s []=⟨Ba 60 [(0,.p (.str s)),(5,.ptr 5 0 0),(6,.p (.int .i64 i))],[(5,.var 206 [.p .nptr,.p .snil])]⟩:=rfl
theorem pre1 {s:List UInt8}:s.take 1=[34] ↔ ¬ (s.length=0\/at_ s 0≠34):=by
 match s with
 | []=>simp
 | a :: t =>
  simp only [List.take_succ_cons,List.take_zero,Ecu,and_true,Gu,List.length_cons];constructor
  ·rintro rfl;simp
  ·intro h;exact UInt8.toNat_inj.1 (by simp at h ⊢;exact h)
theorem Ts (s:List UInt8) (hs:s.length<=1000000):Det cx 186 [.p (.str s)] [] (.tup [.str (uq s).1,.int .i64 (uq s).2.1,.int .i64 (uq s).2.2]) []:=by
 (refine bgo Tryz.func186 ?_;simp only [go_sem,simprocAttr]);(repeat' (first|(apply iteI<;>intro h)|((refine Jqa (Bj s _ hs de) ?_);simp only [go_sem,simprocAttr])|fail))
 ·unfold uq;rw [if_pos (by rw [pre1] at *;exact Ea1.1 (by assumption))];exact ⟨rfl,rfl,rfl⟩
 have hp:¬ (s.length=0\/at_ s 0≠34):=pre1.1 (Ea1.1 (by assumption));have e:uq s=uqF s (s.length+1) 1 []:=by unfold uq;rw [if_neg hp]
 refine SWP.loop (fun x:Nat×Nat×List UInt8=>uqSt x.1 s x.2.2) (fun x=>1<=x.1/\x.1<=s.length/\s.length+1<=x.1+x.2.1/\x.2.2.length<=4 * x.1/\uqF s x.2.1 x.1 x.2.2=uq s) (fun x=>s.length - x.1) (1,s.length+1,[]) Jqc ⟨by simp,by simp only;omega,by simp,by simp,e.symm⟩ ?_;rintro ⟨i,f,out⟩ ⟨h0,h1,h2,h3,h4⟩;simp only at h0 h1 h2 h3 h4;obtain ⟨g,rfl⟩:∃ g,f=g+1:=⟨f - 1,by omega⟩
 show SWP _ _ _ _ (uqSt i s out);by_cases hlt:¬ i<s.length
 ·rw [uqF,if_neg hlt] at h4;by_cases hne:out=[]
  ·subst hne;rw [Rm];(refine lws ?_;simp only [go_sem,simprocAttr]);(repeat' (first|(apply iteI<;>intro h)|refine Jqj ?_|(exfalso;omega)));rw [<- h4];exact ⟨rfl,rfl,rfl⟩
  ·rw [Ik hne];(refine lws ?_;simp only [go_sem,simprocAttr]);(repeat' (first|(apply iteI<;>intro h)|refine Jqj ?_|(exfalso;omega)));rw [<- h4];exact ⟨rfl,rfl,rfl⟩
 ·have hlt:=Ea1.1 hlt;have ht:=tk_le s i hlt;rw [uqF,if_pos hlt] at h4;by_cases hr:rlen s i=0
  ·have hd:=Jgy hlt hr;have ha:128<=at_ s i:=Nat.le_of_not_lt fun h=>by rw [Q4.2 h] at hr;cases hr
   have h5:(tk s i).2=0:=by unfold tk;rw [if_neg omg];exact hr
   rw [if_neg omg,if_pos (.inl h5)] at h4;by_cases hne:out=[]
   ·subst hne;rw [Rm];(refine lws ?_;simp only [go_sem,simprocAttr]);(repeat' (first|(apply iteI<;>intro h)|refine Jqj ?_|((refine Jqa (C4 _) ?_);simp only [go_sem,simprocAttr,hd])|(exfalso;omega)));rw [<- h4];exact ⟨rfl,rfl,rfl⟩
   ·rw [Ik hne];(refine lws ?_;simp only [go_sem,simprocAttr]);(repeat' (first|(apply iteI<;>intro h)|refine Jqj ?_|((refine Jqa (C4 _) ?_);simp only [go_sem,simprocAttr,hd])|(exfalso;omega)));rw [<- h4];exact ⟨rfl,rfl,rfl⟩
  ·have hd:=Jcl hlt hr;have hc:=Gq hr;have hone:rlen s i=1 ↔ at_ s i<128:=Q4;have hR:=Fm hr;unfold Cy at hR;have hE:(escR (s.drop i)).2≠0->0<=(escR (s.drop i)).1/\(escR (s.drop i)).1<=1114111:=fun h=>by
    have:=O6 h;unfold Cy at this;omega
   have hEl:=Jd0 (s.drop i);have h4r:=Qv s i;have hT9:at_ s i=92->(escR (s.drop i)).2≠0->tk s i=(utf (escR (s.drop i)).1,(escR (s.drop i)).2):=fun h h'=>by
    unfold tk;rw [if_pos h];unfold escS;rw [if_neg h']
   have hT0:at_ s i=92->(escR (s.drop i)).2=0->(tk s i).2=0:=fun h h'=>by
    unfold tk;rw [if_pos h];unfold escS;rw [if_pos h']
   have hTn:at_ s i≠92->tk s i=(utf (code s i),rlen s i):=fun h=>by
    unfold tk;rw [if_neg h,H5 hr hlt]
   have hu1:=I4 (code s i);have hu2:=I4 (escR (s.drop i)).1;have hnn:∀ r,out ++ utf r≠[]:=fun r h=>by have:=I4 r;rw [(List.append_eq_nil_iff.1 h).2] at this;simp at this
   by_cases hne:out=[]
   ·subst hne;rw [Rm];(refine lws ?_;simp only [go_sem,simprocAttr,wi1 (i:=i) omg,wia (i:=i) (j:=rlen s i) omg omg,wia (i:=i) (j:=(escR (s.drop i)).2) omg omg]);(repeat' (first|(apply iteI<;>intro h)|refine Jqj ?_|((first|(refine Jqa (C4 _) ?_)|refine Jqa Fa ?_|(refine Jqa (Mv _ (by rw [Ea4];omega)) ?_)|(refine Jqa (Hb _ omg omg) ?_));simp only [go_sem,simprocAttr,hd,wi1 (i:=i) omg,wia (i:=i) (j:=rlen s i) omg omg,wia (i:=i) (j:=(escR (s.drop i)).2) omg omg])|(exfalso;omega)))
    all_goals first
     | (rw [if_pos omg] at h4;rw [<- h4];exact ⟨rfl,rfl,rfl⟩)
     | (rw [if_neg omg,if_pos (.inl (hT0 omg omg))] at h4;rw [<- h4];exact ⟨rfl,rfl,rfl⟩)
     | (rw [if_neg omg,if_pos (.inr omg)] at h4;rw [<- h4];exact ⟨rfl,rfl,rfl⟩)
     | (
      have hT:=hTn omg;rw [hT] at h4 ht;simp only at h4 ht;rw [if_neg omg,if_neg omg] at h4;refine ⟨(i+rlen s i,g,[] ++ utf (code s i)),⟨by simp only;omega,by simp only;omega,by simp only;omega,by simp only [Eac,List.length_nil];omega,h4⟩,by simp only;omega,?_⟩;simp only;rw [Ik (hnn _)];exact Jqc)
     | (
      have hT:=hT9 omg omg;rw [hT] at h4 ht;simp only at h4 ht;rw [if_neg omg,if_neg omg] at h4;refine ⟨(i+(escR (s.drop i)).2,g,[] ++ utf (escR (s.drop i)).1),⟨by simp only;omega,by simp only;omega,by simp only;omega,by simp only [Eac,List.length_nil];omega,h4⟩,by simp only;omega,?_⟩;simp only;rw [Ik (hnn _)];exact Jqc)
   ·have hl0:out.length≠0:=fun h=>hne (Eal h)
    rw [Ik hne];(refine lws ?_;simp only [go_sem,simprocAttr,wi1 (i:=i) omg,wia (i:=i) (j:=rlen s i) omg omg,wia (i:=i) (j:=(escR (s.drop i)).2) omg omg]);(repeat' (first|(apply iteI<;>intro h)|refine Jqj ?_|((first|(refine Jqa (C4 _) ?_)|(refine Jqa (Eo out _ rfl omg hl0) ?_)|(refine Jqa (Mv _ (by rw [Ea4];omega)) ?_)|(refine Jqa (Ed _ _ _ (Di _) omg omg omg) ?_));simp only [go_sem,simprocAttr,hd,wi1 (i:=i) omg,wia (i:=i) (j:=rlen s i) omg omg,wia (i:=i) (j:=(escR (s.drop i)).2) omg omg])|(exfalso;omega)))
    all_goals first
     | (rw [if_pos omg] at h4;rw [<- h4];exact ⟨rfl,rfl,rfl⟩)
     | (rw [if_neg omg,if_pos (.inl (hT0 omg omg))] at h4;rw [<- h4];exact ⟨rfl,rfl,rfl⟩)
     | (rw [if_neg omg,if_pos (.inr omg)] at h4;rw [<- h4];exact ⟨rfl,rfl,rfl⟩)
     | (
      have hT:=hTn omg;rw [hT] at h4 ht;simp only at h4 ht;rw [if_neg omg,if_neg omg] at h4;refine ⟨(i+rlen s i,g,out ++ utf (code s i)),⟨by simp only;omega,by simp only;omega,by simp only;omega,by simp only [Eac];omega,h4⟩,by simp only;omega,?_⟩;simp only;rw [Ik (hnn _),Gz,Eac];exact Jqc)
     | (
      have hT:=hT9 omg omg;rw [hT] at h4 ht;simp only at h4 ht;rw [if_neg omg,if_neg omg] at h4;refine ⟨(i+(escR (s.drop i)).2,g,out ++ utf (escR (s.drop i)).1),⟨by simp only;omega,by simp only;omega,by simp only;omega,by simp only [Eac];omega,h4⟩,by simp only;omega,?_⟩;simp only;rw [Ik (hnn _),Gz,Eac];exact Jqc)
theorem Uz {s:List UInt8} {i:Nat} (h:rlen s i≠0) (hi:i<s.length):(utf (code s i)).length=rlen s i:=by
 have h1:=M4 s i hi;rw [H5 h hi];simp;omega
def letR (r:Int):Option Nat :=
 if r=34 then some 34 else if r=92 then some 92 else if r=8 then some 98 else if r=12 then some 102 else if r=10 then some 110 else if r=13 then some 114 else if r=9 then some 116 else none
def letN:Nat->Nat
 | 0=>34 | 1=>92 | 2=>47 | 3=>8 | 4=>12 | 5=>10 | 6=>13 | 7=>9 | _=>0
theorem M9 {i:Nat} {p:PV×PV} (h:Ei[i]? = some p):i<8/\∃ c r:Nat,p=(.int .u8 c,.int .i32 r):=by
 have hl:=(Eab.1 h).1;have h8:i<8:=hl;refine ⟨h8,?_⟩;have key:∀ j:Fin 8,∃ c r:Nat,Ei[j.val]? = some (.int .u8 c,.int .i32 r):=by
  intro j
  match j with
  | ⟨0,_⟩=>exact ⟨34,34,rfl⟩
  | ⟨1,_⟩=>exact ⟨92,92,rfl⟩
  | ⟨2,_⟩=>exact ⟨47,47,rfl⟩
  | ⟨3,_⟩=>exact ⟨98,8,rfl⟩
  | ⟨4,_⟩=>exact ⟨102,12,rfl⟩
  | ⟨5,_⟩=>exact ⟨110,10,rfl⟩
  | ⟨6,_⟩=>exact ⟨114,13,rfl⟩
  | ⟨7,_⟩=>exact ⟨116,9,rfl⟩
 obtain ⟨c,r,hk⟩:=key ⟨i,h8⟩;rw [hk] at h;exact ⟨c,r,(Ea3 h).symm⟩
theorem Jge {i j:Nat} {v w k:PV} (hi:Ei[i]? = some (v,k)) (hj:Ei[j]? = some (w,k)):i=j:=by
 obtain ⟨h1,a,r,e1⟩:=M9 hi;obtain ⟨h2,b,q,e2⟩:=M9 hj;obtain ⟨rfl,rfl⟩:=Ecw e1;obtain ⟨rfl,e3⟩:=Ecw e2;have hrq:r=q:=by injection e3 with _ h;omega
 subst hrq;have key:∀ i j:Fin 8,∀ a b r:Nat,Ei[i.val]? = some (.int .u8 a,.int .i32 r)->Ei[j.val]? = some (.int .u8 b,.int .i32 r)->(letN i.val=r/\letN j.val=r):=by
  intro i j a b r hi hj;have f:∀ k:Fin 8,∀ c q:Nat,Ei[k.val]? = some (.int .u8 c,.int .i32 q)->letN k.val=q:=by
   intro k c q h
   match k,h with
   | ⟨0,_⟩,h=>cases h;rfl
   | ⟨1,_⟩,h=>cases h;rfl
   | ⟨2,_⟩,h=>cases h;rfl
   | ⟨3,_⟩,h=>cases h;rfl
   | ⟨4,_⟩,h=>cases h;rfl
   | ⟨5,_⟩,h=>cases h;rfl
   | ⟨6,_⟩,h=>cases h;rfl
   | ⟨7,_⟩,h=>cases h;rfl
  exact ⟨f i a r hi,f j b r hj⟩
 obtain ⟨k1,k2⟩:=key ⟨i,h1⟩ ⟨j,h2⟩ a b r hi hj;have inj:∀ i j:Fin 8,letN i.val=letN j.val->i=j:=by decide
 exact congrArg Fin.val (inj ⟨i,h1⟩ ⟨j,h2⟩ (k1.trans k2.symm))
theorem Jb8 {i:Nat} {v:PV} {r:Int} (h:Ei[i]? = some (v,.int .i32 r)):r=34\/r=92\/r=47\/r=8\/r=12\/r=10\/r=13\/r=9:=by
 obtain ⟨h8,_⟩:=M9 h;have f:∀ k:Fin 8,Ei[k.val]? = some (v,.int .i32 r)->r=34\/r=92\/r=47\/r=8\/r=12\/r=10\/r=13\/r=9:=by
  intro k h
  match k,h with
  | ⟨0,_⟩,h=>cases h;simp
  | ⟨1,_⟩,h=>cases h;simp
  | ⟨2,_⟩,h=>cases h;simp
  | ⟨3,_⟩,h=>cases h;simp
  | ⟨4,_⟩,h=>cases h;simp
  | ⟨5,_⟩,h=>cases h;simp
  | ⟨6,_⟩,h=>cases h;simp
  | ⟨7,_⟩,h=>cases h;simp
 exact f ⟨i,h8⟩ h
def LetMap (es:List (PV×PV)):Prop:=∀ r:Int,(letR r=none/\Cl (.int .i32 r) es 0=some none)\/∃ i c,letR r=some c/\c<=116/\Cl (.int .i32 r) es 0=some (some (i,.int .u8 c))
theorem Jfl:Al cx 213 [] [] (fun m q=>q=[]/\∃ es,m=.p (.mp es)/\LetMap es):=by
 (refine bgo Tryz.func213 ?_;simp only [go_sem,simprocAttr]);(repeat' (first|((refine Jqa Kl ?_);simp only [go_sem,simprocAttr])|fail));refine SWP.loop (fun x:List (PV×PV)×List Nat=>⟨Ba 17 [(1,.mref 4),(6,.ptr 6 0 0)],[(6,.obj (.mit Ei x.2)),(4,.obj (.mp x.1))]⟩) (fun x=>MapF (Z5 .i32) x.1/\∀ k v,(k,v)∈x.1 ↔ ∃ i∈x.2,Ei[i]? = some (v,k)) (fun x=>Jo x.2 8) ([],[]) Jqc ⟨MapF.nil,by simp⟩ ?_;rintro ⟨es,seen⟩ ⟨h1,h2⟩;simp only at h1 h2;(refine lws ?_;simp only [go_sem,simprocAttr]);refine ⟨fun j p hj hns=>?_,fun hall=>?_⟩
 ·obtain ⟨h8,c,r,rfl⟩:=M9 hj;refine ⟨_,hj,?_⟩;obtain ⟨es',e1,g1,g2⟩:=Jhy (v:=.int .u8 c) (P1 .i32) (k:=.int .i32 r) ⟨_,rfl⟩ h1;simp only [go_sem,simprocAttr,e1];refine ⟨(es',seen ++ [j]),⟨g1,fun k v=>?_⟩,S9 hns h8,Jqc⟩;rw [g2];constructor
  ·rintro (⟨rfl,rfl⟩ | ⟨_,hm⟩)
   ·exact ⟨j,by simp,hj⟩
   ·obtain ⟨i,hi,he⟩:=(h2 k v).1 hm;exact ⟨i,by simp [hi],he⟩
  ·rintro ⟨i,hi,he⟩;rw [Eau,Eay] at hi;rcases hi with hi | rfl
   ·refine .inr ⟨fun hk=>?_,(h2 k v).2 ⟨i,hi,he⟩⟩;subst hk;have:=Jge he hj;subst this;exact hns hi
   ·rw [hj] at he;have:=Ecw (Ea3 he);exact .inl ⟨this.2.symm,this.1.symm⟩
 ·obtain ⟨es',e1,g1,g2⟩:=Jer (P1 .i32) (k:=.int .i32 47) ⟨_,rfl⟩ h1;simp only [go_sem,simprocAttr,e1,e1];refine ⟨es',rfl,fun r=>?_⟩;have inn:∀ (i:Nat) (c r:Int),Ei[i]? = some (.int .u8 c,.int .i32 r)->r≠47->∃ j,Cl (.int .i32 r) es' 0=some (some (j,.int .u8 c)):=fun i c r hi hr =>
   Jkm (P1 .i32) g1 ((g2 _ _).2 ⟨fun e=>hr (by injection e),(h2 _ _).2 ⟨i,hall i (Eab.1 hi).1,hi⟩⟩)
  unfold letR;by_cases c1:r=34
  ·subst c1;obtain ⟨j,hj⟩:=inn 0 34 34 rfl de;exact .inr ⟨j,34,rfl,by decide,hj⟩
  by_cases c2:r=92
  ·subst c2;obtain ⟨j,hj⟩:=inn 1 92 92 rfl de;exact .inr ⟨j,92,rfl,by decide,hj⟩
  by_cases c3:r=8
  ·subst c3;obtain ⟨j,hj⟩:=inn 3 98 8 rfl de;exact .inr ⟨j,98,rfl,by decide,hj⟩
  by_cases c4:r=12
  ·subst c4;obtain ⟨j,hj⟩:=inn 4 102 12 rfl de;exact .inr ⟨j,102,rfl,by decide,hj⟩
  by_cases c5:r=10
  ·subst c5;obtain ⟨j,hj⟩:=inn 5 110 10 rfl de;exact .inr ⟨j,110,rfl,by decide,hj⟩
  by_cases c6:r=13
  ·subst c6;obtain ⟨j,hj⟩:=inn 6 114 13 rfl de;exact .inr ⟨j,114,rfl,by decide,hj⟩
  by_cases c7:r=9
  ·subst c7;obtain ⟨j,hj⟩:=inn 7 116 9 rfl de;exact .inr ⟨j,116,rfl,by decide,hj⟩
  refine .inl ⟨by simp [*],Jep (P1 .i32) ⟨_,rfl⟩ g1 fun v hv=>?_⟩;obtain ⟨hne,hm⟩:=(g2 _ _).1 hv;obtain ⟨i,_,hi⟩:=(h2 _ _).1 hm;have h47:r≠47:=fun e=>hne (by rw [e])
  have:=Jb8 hi;omega
theorem Jdx (a b:List UInt8):wrs (a ++ b)=wrs a ++ wrs b:=by simp [wrs]
def qr (r:Int):List UInt8:=match letR r with
 | some c=>[92,UInt8.ofNat c]
 | none=>if r<32 then [92,117,48,48] ++ (hex3 (r.toNat+256)).drop 1 else utf r
theorem Joz {c:Nat} (h:128<=c):wr c=[UInt8.ofNat c]:=by
 unfold wr;rw [if_neg omg,if_neg omg,if_neg omg,if_neg omg,if_neg omg,if_neg omg,if_neg omg,if_neg omg]
theorem wr_low {c:Nat} (h:c<128):wr c=qr c:=by
 have key:∀ m:Fin 128,wr m.val=qr m.val:=by decide
 exact key ⟨c,h⟩
theorem Ze:∀ l:List UInt8,(∀ c∈l,128<=c.toNat)->wrs l=l
 | [],_=>rfl
 | c :: l,h=>by
  show wr c.toNat ++ wrs l=c :: l;rw [Joz (h c Eaf),Ze l fun d hd=>h d (Eag _ hd)];simp
theorem Jfh {r:Int} (h:93<=r):letR r=none:=by
 unfold letR;rw [if_neg omg,if_neg omg,if_neg omg,if_neg omg,if_neg omg,if_neg omg,if_neg omg]
theorem Yx {s:List UInt8} {i:Nat} (h:rlen s i≠0) (hi:i<s.length):wrs ((s.drop i).take (rlen s i))=qr (code s i):=by
 by_cases h1:at_ s i<128
 ·rw [Q4.2 h1,(Gq h).2 h1,<- wr_low h1];rw [Eax hi,List.take_succ_cons,List.take_zero];show wr s[i].toNat ++ []=wr (at_ s i);rw [Eaz,Ql hi]
 ·have hc:128<=code s i:=by have:=(Gq h).1;omega
  have e:qr (code s i)=utf (code s i):=by
   unfold qr;rw [Jfh omg];simp only;rw [if_neg omg]
  rw [e,H5 h hi];apply Ze;intro c hm;rw [<- H5 h hi] at hm;obtain ⟨x,hx,rfl⟩:=Eap.1 hm;have hx2:128<=x/\x<256:=by
   revert hx;unfold utfC;rw [if_neg omg]
   repeat' split
   all_goals (simp;try omega)
  have:=B8 (c:=x) omg omg;omega
theorem K4 (es:List (List PV)) (s:List UInt8) (n:Nat) (he:es=bstr s) (hn:s.length=n) (h1:n<=1000000000) (h0:n≠0):Det cx 210 [.ptr 1000 0 0] [(500001,.row 5 1 es),(1000,.var 206 [.ptr 1000 0 0,.own 500001 0 n])] (.p (.str s)) [(1000,.var 206 [.ptr 1000 0 0,.junk])]:=by
 subst he;exact Eo s n hn h1 h0
@[simp] theorem bstr_34:bstr [34]=[[.int .u8 34]]:=rfl
theorem Jik (u:Nat):(hex3 u).length=3:=rfl
theorem Kt (s:List UInt8) (hs:s.length<=1000000) (hv:valid s=true):Det cx 188 [.p (.str s)] [] (.p (.str (refQ s))) []:=by
 (refine bgo Tryz.func188 ?_;simp only [go_sem,simprocAttr]);refine Jfl.mono fun m q hm'=>?_
 obtain ⟨rfl,es,rfl,hL⟩:=hm';simp only [go_sem,simprocAttr];(repeat' (first|((refine Jqa (Hc 34) ?_);simp only [go_sem,simprocAttr])|fail));refine SWP.loop (fun x:Nat×Nat=>⟨Ba 41 [(0,.p (.str s)),(3,.ptr 3 0 0),(4,.p (.mp es)),(12,.ptr 12 0 0)],[(12,.obj (.sit s x.1)),(10,.row 5 1 (bstr (34 :: wrs (s.take x.1)))),(3,.var 206 [.ptr 3 0 0,.own 10 0 (34 :: wrs (s.take x.1)).length])]⟩) (fun x=>x.1<=s.length/\s.length+1<=x.1+x.2/\vF s x.2 x.1=true) (fun x=>s.length - x.1) (0,s.length+1) Jqc ⟨by simp,by simp,hv⟩ ?_;rintro ⟨i,f⟩ ⟨h1,h2,h3⟩;simp only at h1 h2 h3;obtain ⟨g,rfl⟩:∃ g,f=g+1:=⟨f - 1,by omega⟩
 have hw:=Jlg (s.take i);have hl:(s.take i).length<=s.length:=List.length_take_le' ..
 rw [vF] at h3;by_cases hlt:¬ i<s.length
 ·have ht:s.take i=s:=Ead omg;rw [ht] at hw ⊢;(refine lws ?_;simp only [go_sem,simprocAttr,H6]);(repeat' (first|(apply iteI<;>intro h)|((first|(refine Jqa (Eb 34 _ _ (Di _) (by simp;omega)) ?_)|(refine Jqa (K4 _ (34 :: wrs s ++ [34]) _ (by simp [bstr]) sm (by simp;omega) sm) ?_));simp only [go_sem,simprocAttr])|(exfalso;omega)));rfl
 have hlt:=Ea1.1 hlt;rw [if_pos hlt] at h3;have hd:=F1 s i;have hrl:=M4 s i hlt;by_cases hr:rlen s i=0
 ·rw [if_pos hr] at h3;cases h3
 rw [if_neg hr] at h3 hd;have hR:=Fm hr;unfold Cy at hR;have hq:wrs (s.take (i+rlen s i))=wrs (s.take i) ++ qr (code s i):=by
  rw [List.take_add,Jdx,Yx hr hlt]
 have hw0:=wi0 (c:=code s i) omg;have hw1:IntKind.i64.wrap ((code s i:Int)+256)=((code s i+256:Nat):Int):=by rw [Aa omg omg];omega
 rcases hL (code s i) with ⟨hlr,hmf⟩ | ⟨j,c,hlr,hc,hmf⟩
 ·(refine lws ?_;simp only [go_sem,simprocAttr,H6,hd,hmf]);(repeat' (first|(apply iteI<;>intro h)|((first|(refine Jqa (Bx _ _ _ (by simp [bstr]) (by simp;omega) (by simp [hex3])) ?_)|(refine Jqa (Ph (code s i+256) omg omg) ?_)|(refine Jqa (Ed _ _ _ (Di _) (by simp;omega) omg omg) ?_));simp only [go_sem,simprocAttr,hw0,hw1,Jik])|(exfalso;omega)))
  ·have hqr:qr (code s i)=[92,117,48,48] ++ (hex3 (code s i+256)).drop 1:=by
    unfold qr;rw [hlr];simp only;rw [if_pos omg];rfl
   have hrow:bstr (34 :: wrs (s.take (i+rlen s i)))=bstr (34 :: wrs (s.take i)) ++ bstr [92,117,48,48] ++ bstr ((hex3 (code s i+256)).drop 1):=by
    rw [hq,hqr,<- List.cons_append,Gz,Gz,Ea2]
   have hlen:(wrs (s.take (i+rlen s i))).length+1=(wrs (s.take i)).length+1+4+((hex3 (code s i+256)).drop 1).length:=by rw [hq,hqr];simp [hex3]
   refine ⟨(i+rlen s i,g),⟨by simp only;omega,by simp only;omega,h3⟩,by simp only;omega,?_⟩;simp only [List.length_cons];rw [hrow,hlen];exact Jqc
  ·have hqr:qr (code s i)=utf (code s i):=by
    unfold qr;rw [hlr];simp only;rw [if_neg omg]
   have hrow:bstr (34 :: wrs (s.take (i+rlen s i)))=bstr (34 :: wrs (s.take i)) ++ bstr (utf (code s i)):=by
    rw [hq,hqr,<- List.cons_append,Gz]
   have hlen:(wrs (s.take (i+rlen s i))).length+1=(wrs (s.take i)).length+1+(utf (code s i)).length:=by rw [hq,hqr];simp;omega
   refine ⟨(i+rlen s i,g),⟨by simp only;omega,by simp only;omega,h3⟩,by simp only;omega,?_⟩;simp only [List.length_cons];rw [hrow,hlen];exact Jqc
 ·(refine lws ?_;simp only [go_sem,simprocAttr,H6,hd,hmf,hd,hmf]);(repeat' (first|(apply iteI<;>intro h)|((refine Jqa (Eb _ _ _ (by simp [bstr]) (by simp;omega)) ?_);simp only [go_sem,simprocAttr])|(exfalso;omega)));have hqr:qr (code s i)=[92,UInt8.ofNat c]:=by
   unfold qr;rw [hlr]
  have hrow:bstr (34 :: wrs (s.take (i+rlen s i)))=bstr (34 :: wrs (s.take i)) ++ [[.int .u8 92]] ++ [[.int .u8 c]]:=by
   rw [hq,hqr,<- List.cons_append,Gz,Ea2];simp [bstr];omega
  have hlen:(wrs (s.take (i+rlen s i))).length+1=(wrs (s.take i)).length+1+1+1:=by rw [hq,hqr];simp
  refine ⟨(i+rlen s i,g),⟨by simp only;omega,by simp only;omega,h3⟩,by simp only;omega,?_⟩;simp only [List.length_cons];rw [hrow,hlen];exact Jqc
def utfs (rs:List Int):List UInt8:=rs.flatMap utf
def wq (rs:List Int):List UInt8:=rs.flatMap qr
def AllR (rs:List Int):Prop:=∀ r∈rs,Cy r
theorem Ki (r:Int) (rs:List Int):utfs (r :: rs)=utf r ++ utfs rs:=rfl
theorem U4 (r:Int) (rs:List Int):wq (r :: rs)=qr r ++ wq rs:=rfl
theorem AllR.app {a b:List Int} (h1:AllR a) (h2:AllR b):AllR (a ++ b):=fun r h=>(Eau.1 h).elim (h1 r) (h2 r)
theorem AllR.tail {r:Int} {rs:List Int} (h:AllR (r :: rs)):AllR rs:=fun x hx=>h x (Eag _ hx)
theorem AllR.head {r:Int} {rs:List Int} (h:AllR (r :: rs)):Cy r:=h r Eaf
theorem O2:∀ (rs:List Int) (s:List UInt8) (f i:Nat),AllR rs->s.drop i=utfs rs->vF s f i=true
 | _,_,0,_,_,_=>rfl
 | [],s,f+1,i,_,h=>by
  have hl:=congrArg List.length h;simp [utfs] at hl;rw [vF,if_neg omg]
 | r :: rs,s,f+1,i,ha,h=>by
  rw [Ki] at h;obtain ⟨h1,_⟩:=Rp ha.head (utfs rs);rw [<- h,Ny,Nat.add_zero] at h1;have hp:=I4 r;have hd:s.drop (i+rlen s i)=utfs rs:=by
   rw [<- Ebg,h,h1,Ec4]
  rw [vF];split
  ·rw [if_neg omg];exact O2 rs s f _ ha.tail hd
  ·rfl
theorem Pi:∀ (f:Nat) (s:List UInt8) (i:Nat),s.length<i+f->vF s f i=true->∃ rs,AllR rs/\s.drop i=utfs rs
 | 0,s,i,hf,_=>⟨[],by simp [AllR],Ear omg⟩
 | f+1,s,i,hf,h=>by
  rw [vF] at h;split at h
  ·rename_i hlt;split at h
   ·cases h
   ·rename_i hr;obtain ⟨rs,ha,hd⟩:=Pi f s _ omg h;refine ⟨(code s i:Int) :: rs,?_,?_⟩
    ·intro r hm;rcases Eaj.1 hm with rfl | hm
     ·exact Fm hr
     ·exact ha r hm
    ·rw [Ki,H5 hr hlt,<- hd,<- Ebg,Ebl]
  ·exact ⟨[],by simp [AllR],Ear omg⟩
theorem Jb {s:List UInt8}:valid s=true ↔ ∃ rs,AllR rs/\s=utfs rs :=
 ⟨fun h=>by
  obtain ⟨rs,ha,hd⟩:=Pi (s.length+1) s 0 omg h;exact ⟨rs,ha,hd⟩,fun ⟨rs,ha,e⟩=>O2 rs s _ 0 ha (by rw [Ebi];exact e)⟩
theorem Jn1 {r:Int} (h:Cy r):wrs (utf r)=qr r:=by
 obtain ⟨h1,h2⟩:=Rp h [];rw [Eaz] at h1 h2;have hp:=I4 r;have:=Yx (s:=utf r) (i:=0) omg omg;rw [h1,Ebi,List.take_length,h2] at this;exact this
theorem Ru:∀ rs:List Int,AllR rs->wrs (utfs rs)=wq rs
 | [],_=>rfl
 | r :: rs,h=>by rw [Ki,U4,Jdx,Jn1 h.head,Ru rs h.tail]
theorem Tu (r:Int):(letR r=none/\r≠34/\r≠92)\/∃ c,letR r=some c/\Hr c=some r.toNat/\0<=r/\c<256:=by
 unfold letR;by_cases c1:r=34
 ·subst c1;exact .inr ⟨34,rfl,rfl,by decide,by decide⟩
 by_cases c2:r=92
 ·subst c2;exact .inr ⟨92,rfl,rfl,by decide,by decide⟩
 by_cases c3:r=8
 ·subst c3;exact .inr ⟨98,rfl,rfl,by decide,by decide⟩
 by_cases c4:r=12
 ·subst c4;exact .inr ⟨102,rfl,rfl,by decide,by decide⟩
 by_cases c5:r=10
 ·subst c5;exact .inr ⟨110,rfl,rfl,by decide,by decide⟩
 by_cases c6:r=13
 ·subst c6;exact .inr ⟨114,rfl,rfl,by decide,by decide⟩
 by_cases c7:r=9
 ·subst c7;exact .inr ⟨116,rfl,rfl,by decide,by decide⟩
 refine .inl ⟨by simp [*],c1,c2⟩
theorem R9 (s:List UInt8):(refQ s).length=(wrs s).length+2:=by simp [refQ]
theorem Xn:∀ (f:Nat) (s:List UInt8) (i:Nat) (out:List UInt8),1<=i->((uqF s f i out).2.2=0/\2<=(uqF s f i out).2.1/\(uqF s f i out).2.1<=s.length)\/((uqF s f i out).2.2=1/\(uqF s f i out).1=[]/\(uqF s f i out).2.1<=s.length)
 | 0,s,i,out,_=>.inr ⟨rfl,rfl,Eai _⟩
 | f+1,s,i,out,h1=>by
  rw [uqF];split
  ·split
   ·exact .inl ⟨rfl,by simp only;omega,by simp only;omega⟩
   ·split
    ·exact .inr ⟨rfl,rfl,by simp only;omega⟩
    ·exact Xn f s _ _ omg
  ·exact .inr ⟨rfl,rfl,Eai _⟩
theorem Jcv (s:List UInt8):((uq s).2.2=0/\2<=(uq s).2.1/\(uq s).2.1<=s.length)\/((uq s).2.2=1/\(uq s).1=[]/\(uq s).2.1<=s.length):=by
 unfold uq;split
 ·exact .inr ⟨rfl,rfl,Eav _⟩
 ·exact Xn _ _ _ _ omg
theorem Jo6 {r:Int} (h:32<=r) (h1:r≠34) (h2:r≠92):qr r=utf r:=by
 rcases Tu r with ⟨hl,_⟩ | ⟨c,hl,_⟩
 ·unfold qr;rw [hl];simp only;rw [if_neg omg]
 ·exfalso;unfold letR at hl;rw [if_neg omg,if_neg omg,if_neg omg,if_neg omg,if_neg omg,if_neg omg,if_neg omg] at hl;cases hl
theorem Jnq (r:Int):(qr r).length<=6:=by
 have:=Od r;unfold qr;split
 ·simp
 ·split
  ·simp [hex3]
  ·omega
theorem Jib {r:Int} (h0:0<=r) (h:r<128):(utf r).length=1:=by rw [D6,Nb ⟨h0,h⟩];rfl
theorem Jfn {c r:Nat} (h:Hr c=some r):(qr r).length<=2/\r<128:=by
 unfold Hr at h
 repeat' split at h
 all_goals first|(cases h;done)|(obtain rfl:=Ea3 h;exact ⟨by decide,by decide⟩)
theorem Jpo {s:List UInt8} {i:Nat} (hi:i<s.length) (h0:(tk s i).2≠0) (h1:at_ s i≠34) (h2:32<=at_ s i):∃ r,Cy r/\(tk s i).1=utf r/\(utf r).length<=(tk s i).2/\(qr r).length<=(tk s i).2:=by
 unfold tk at h0 ⊢;split
 ·rename_i h92;rw [if_pos h92] at h0;generalize s.drop i=d at *
  have e2:(escR d).2≠0:=fun e=>h0 (by unfold escS;rw [if_pos e])
  have eS:escS d=(utf (escR d).1,(escR d).2):=by unfold escS;rw [if_neg e2]
  refine ⟨(escR d).1,O6 e2,by rw [eS],?_⟩;rw [eS];simp only;have hu:=Od (escR d).1;have hq:=Jnq (escR d).1;unfold escR at e2 hu hq ⊢;split at e2
  ·exact absurd rfl e2
  rename_i hl;rw [if_neg hl] at hu hq ⊢;cases hs:Hr (at_ d 1) with
  | some r =>
   obtain ⟨k1,k2⟩:=Jfn hs;simp only;rw [Jib omg omg];exact ⟨by decide,k1⟩
  | none =>
   rw [hs] at e2 hu hq;simp only at e2 hu hq ⊢;split at e2
   ·exact absurd rfl e2
   rename_i c1;rw [if_neg c1] at hu hq ⊢;split at e2
   ·rename_i c2;rw [if_pos c2] at hu hq ⊢;simp only at hu hq ⊢;omega
   rename_i c2;rw [if_neg c2] at hu hq ⊢;split at e2
   ·exact absurd rfl e2
   rename_i c3;rw [if_neg c3] at hu hq ⊢;simp only at hu hq ⊢;omega
 ·rename_i h92;rw [if_neg h92] at h0;simp only at h0 ⊢;have hcs:=Gq (s:=s) (i:=i) h0;have hl:=Uz h0 hi;refine ⟨code s i,Fm h0,(H5 h0 hi).symm,by omega,?_⟩;rw [Jo6 omg omg omg];omega
theorem Tr:∀ (f:Nat) (s:List UInt8) (i:Nat) (rs:List Int) (x:List UInt8) (n:Nat),1<=i->AllR rs->(utfs rs).length+1<=i->(wq rs).length+1<=i->uqF s f i (utfs rs)=(x,n,0)->∃ ts,AllR ts/\x=utfs ts/\(utfs ts).length+2<=n/\(wq ts).length+2<=n
 | 0,s,i,rs,x,n,_,_,_,_,h=>by simp [uqF] at h
 | f+1,s,i,rs,x,n,h1,ha,hu,hw,h=>by
  rw [uqF] at h;split at h
  ·rename_i hi;split at h
   ·simp only [Ec2] at h;obtain ⟨rfl,rfl,_⟩:=h;exact ⟨rs,ha,rfl,by omega,by omega⟩
   ·rename_i h34;split at h
    ·simp at h
    ·rename_i hb;obtain ⟨r,k1,k2,k3,k4⟩:=Jpo hi omg h34 omg;rw [k2,show utfs rs ++ utf r=utfs (rs ++ [r]) by simp [utfs]] at h;have eu:utfs (rs ++ [r])=utfs rs ++ utf r:=by simp [utfs]
     have ew:wq (rs ++ [r])=wq rs ++ qr r:=by simp [wq]
     refine Tr f s _ (rs ++ [r]) x n omg (ha.app fun y hy=>?_) (by rw [eu,Eac];omega) (by rw [ew,Eac];omega) h;rw [Eay.1 hy];exact k1
  ·simp at h
theorem Jmq {s x:List UInt8} {n:Nat} (h:uq s=(x,n,0)):valid x=true/\x.length+2<=n/\(refQ x).length<=n/\n<=s.length:=by
 have he:=Jcv s;rw [h] at he;simp only at he;unfold uq at h;split at h
 ·simp at h
 ·obtain ⟨ts,ha,rfl,h1,h2⟩:=Tr _ s 1 [] x n omg (by simp [AllR]) (by simp [utfs]) (by simp [wq]) h;refine ⟨Jb.2 ⟨ts,ha,rfl⟩,h1,?_,by omega⟩;rw [R9,Ru ts ha];exact h2
def Jdz (l:List UInt8):Prop:=∀ i,i<l.length->32<=at_ l i/\(at_ l i=34->1<=i/\at_ l (i - 1)=92)
theorem Jdz.app {a b:List UInt8} (h1:Jdz a) (h2:Jdz b):Jdz (a ++ b):=by
 intro i hi;rw [Eac] at hi;by_cases h:i<a.length
 ·rw [Jx h];refine ⟨(h1 i h).1,fun e=>?_⟩;obtain ⟨k1,k2⟩:=(h1 i h).2 e;exact ⟨k1,by rw [Jx omg];exact k2⟩
 ·rw [Ib omg];have hb:=h2 (i - a.length) omg;refine ⟨hb.1,fun e=>?_⟩;obtain ⟨k1,k2⟩:=hb.2 e;refine ⟨by omega,?_⟩;rw [Ib omg,show i - 1 - a.length=i - a.length - 1 by omega];exact k2
def figs (great:Bool):List UInt8:=if great then [48,49,50,51,52,53,54,55,56,57,65,66,67,68,69,70] else [48,49,50,51,52,53,54,55,56,57,97,98,99,100,101,102]
def fig (great:Bool) (d:Nat):UInt8:=(figs great).getD d 0
def codeS (n:Nat) (great:Bool):List UInt8:=[92,117,fig great (n / 4096 % 16),fig great (n / 256 % 16),fig great (n / 16 % 16),fig great (n % 16)]
end Go.LX
