/- Paths: what is set, and what is got: plain laws. -/
import Derived.Test.YtpdaccjebbbbaaaGreatDoorLxR
import Derived.Test.YtpdaccjebbbbaaaGreatDoorLxO
import Derived.Test.YtpdaccjebbbbaaaGreatDoorLxQ
import Derived.Test.YtpdaccjebbbbaaaGreatDoorLxL
import Derived.OpenShut
import Derived.WideKeyArgs
import Derived.Below
import Derived.ProofKit
import Derived.WalkKit
import Derived.ChangeSame
import Derived.Deep.DeepHandedRow
import Derived.Deep.Slices
import Derived.SizedLaws
set_option linter.unusedSimpArgs false
set_option linter.unusedVariables false
set_option linter.unusedSectionVars false
set_option linter.unnecessarySimpa false
set_option maxRecDepth 100000
set_option maxHeartbeats 2000000
namespace Go.LX
open Go Go.RowKit Go.Proofs
attribute [local irreducible] Al SWP Bi
def nd (k:Int) (l:List KT):Tree:=.mk k [] false 0 (A1 l)
theorem Ea (l:List KT):(A1 l).list=l:=Hd l
theorem Jdh {k:Int} {l:List KT}:okT (nd k l) ↔ G3 k [] false 0 l.length∧Eh k l∧∀ p∈l,okT p.2:=by
 unfold nd;rw [Lu,Jdo,Ea,Ca]
def Ck (name:List UInt8) (t:Tree) (l:List KT):List KT:=l.map fun p=>if p.1=name then (name,t) else p
theorem Jhx (name:List UInt8) (t:Tree) (l:List KT):(Ck name t l).map (·.1)=l.map (·.1):=by
 unfold Ck;rw [List.map_map];apply List.map_congr_left;intro p _;simp only [Function.comp];split <;> simp_all
theorem Jkq {l m:List KT} (h:l.map (·.1)=m.map (·.1)):Rise l ↔ Rise m:=by
 have e:∀ l:List KT,Rise l ↔ (l.map (·.1)).Pairwise fun a b=>Op.bytesLess a b=true:=fun l=>by unfold Rise;rw [List.pairwise_map]
 rw [e,e,h]
theorem Ii {name:List UInt8} {t:Tree} {l:List KT} (h:Rise l):Rise (Ck name t l):=(Jkq (Jhx name t l)).2 h
theorem Mh {name:List UInt8} {t:Tree}:∀ {l:List KT},(∀ p∈l,p.1≠name)→Ck name t l=l
 | [],_=>rfl
 | p :: l,h=>by
  have:=Mh (t:=t) fun q hq=>h q (List.mem_cons_of_mem p hq)
  unfold Ck at this ⊢;rw [List.map_cons,if_neg (h p List.mem_cons_self),this]
theorem Y2 {name:List UInt8}:∀ {l:List KT},(∀ p∈l,p.1≠name)→A8 name l=l
 | [],_=>rfl
 | p :: l,h=>by rw [A8,if_neg (h p List.mem_cons_self),Y2 fun q hq=>h q (List.mem_cons_of_mem p hq)]
theorem Zx {name:List UInt8} {y:Tree}:∀ {l:List KT},Rise l→(∃ p∈l,p.1=name)→putL name y (A8 name l)=Ck name y l
 | [],_,h=>by obtain ⟨p,hp,_⟩:=h;cases hp
 | p :: l,hr,h=>by
  obtain ⟨h1,h2⟩:=List.pairwise_cons.1 hr;by_cases hp:p.1=name
  ·have hno:∀ q∈l,q.1≠name:=fun q hq e=>by
    have:=h1 q hq;rw [hp,e,E0] at this;cases this
   rw [A8,if_pos hp,Y2 hno];unfold Ck;rw [List.map_cons,if_pos hp];have:=Mh (t:=y) hno;unfold Ck at this;rw [this];cases l with
   | nil=>rfl
   | cons q l =>
    have:=h1 q List.mem_cons_self;rw [hp] at this;rw [putL,if_neg (by rw [L3 this];simp)]
  ·obtain ⟨q,hq,hqn⟩:=h;have hq':q∈l:=by
    rcases List.mem_cons.1 hq with rfl | hq
    ·exact absurd hqn hp
    ·exact hq
   have hlt:=h1 q hq';rw [hqn] at hlt;rw [A8,if_neg hp,putL,if_pos hlt,Zx h2 ⟨q,hq',hqn⟩];unfold Ck;rw [List.map_cons,if_neg hp]
theorem Lf {name:List UInt8} {y:Tree}:∀ {l:List KT},(∃ p∈l,p.1=name)→Ch name (Ck name y l)=some y
 | [],h=>by obtain ⟨p,hp,_⟩:=h;cases hp
 | p :: l,h=>by
  unfold Ck;rw [List.map_cons];by_cases hp:p.1=name
  ·rw [if_pos hp,Ch,if_pos rfl]
  ·rw [if_neg hp,Ch,if_neg hp];obtain ⟨q,hq,hqn⟩:=h;refine Lf ⟨q,?_,hqn⟩;rcases List.mem_cons.1 hq with rfl | hq
   ·exact absurd hqn hp
   ·exact hq
theorem G8 {name n':List UInt8} {y:Tree} (hn:n'≠name):∀ {l:List KT},Ch n' (Ck name y l)=Ch n' l
 | []=>rfl
 | p :: l=>by
  have ih:=G8 hn (y:=y) (l:=l);unfold Ck at ih ⊢;rw [List.map_cons];by_cases hp:p.1=name
  ·rw [if_pos hp,Ch,if_neg (by simp only;exact fun e=>hn e.symm),Ch,if_neg (by rw [hp];exact fun e=>hn e.symm),ih]
  ·rw [if_neg hp,Ch,Ch,ih]
theorem Xa (name:List UInt8) (y z:Tree) (l:List KT):Ck name z (Ck name y l)=Ck name z l:=by
 unfold Ck;rw [List.map_map];apply List.map_congr_left;intro p _;simp only [Function.comp];by_cases h:p.1=name <;> simp [h]
theorem Jbr {a b:List UInt8} (h:a≠b) (y z:Tree) (l:List KT):Ck a y (Ck b z l)=Ck b z (Ck a y l):=by
 unfold Ck;rw [List.map_map,List.map_map];apply List.map_congr_left;intro p _;simp only [Function.comp];by_cases h1:p.1=a
 ·have h2:¬ p.1=b:=fun e=>h (h1.symm.trans e)
  simp [h1,h,h2]
 ·by_cases h2:p.1=b
  ·simp [h2,Ne.symm h]
  ·simp [h1,h2]
def putT:Tree→Step→Tree→Tree
 | .mk _ _ _ _ kids,x,y=>if x.part=true then nd 5 (unn (kids.list.set x.n.toNat ([],y))) else nd 6 (putL x.name y (A8 x.name kids.list))
inductive Way (t:Tree) (x:Step) (w:Tree):Prop
 | list (l:List KT) (h:t=nd 5 l) (hp:x.part=true) (hn:∀ p∈l,p.1=[]) (hi:l[x.n.toNat]? = some ([],w))
 | obj (l:List KT) (h:t=nd 6 l) (hp:x.part=false) (hr:Rise l) (hi:Ch x.name l=some w)
theorem Jl3:∀ {l:List KT},(∀ p∈l,p.1=[])→unn l=l
 | [],_=>rfl
 | p :: l,h=>by
  have:=Jl3 fun q hq=>h q (List.mem_cons_of_mem p hq)
  unfold unn at this ⊢;rw [List.map_cons,this,← h p List.mem_cons_self]
theorem Jv {t:Tree} {x:Step} {w:Tree} (ht:okT t) (h:inT t x=.ok w):Way t x w:=by
 cases t with
 | mk k s g e kids =>
 rw [Lu] at ht;obtain ⟨h1,h2,h3⟩:=ht;unfold G3 at h1;cases hp:x.part
 ·by_cases hk:k=6
  ·subst hk;simp at h1;obtain ⟨rfl,rfl,rfl⟩:=h1;rw [Tp hp] at h;cases hf:Ch x.name kids.list with
   | none=>rw [hf] at h;cases h
   | some u =>
    rw [hf] at h;cases h;exact .obj kids.list (by unfold nd;rw [G1]) hp (h2.2.2 rfl) hf
  ·rw [Iw hp hk] at h;cases h
 ·by_cases hk:k=5
  ·subst hk;simp at h1;obtain ⟨rfl,rfl,rfl⟩:=h1;rw [Tm hp] at h;cases hf:kids.list[x.n.toNat]? with
   | none=>rw [hf] at h;cases h
   | some q =>
    rw [hf] at h;cases h;have hq:=h2.1 rfl q (List.mem_of_getElem? hf);refine .list kids.list (by unfold nd;rw [G1]) hp (h2.1 rfl) ?_;rw [hf];obtain ⟨a,b⟩:=q;simp only at hq;subst hq;rfl
  ·rw [Iz hp hk] at h;cases h
theorem Va {l:List KT} {x:Step} (hp:x.part=true):inT (nd 5 l) x=match l[x.n.toNat]? with
   | some p=>.ok p.2
   | none=>.error 6:=by unfold nd;rw [Tm hp,Ea] <;> rfl
theorem Vv {l:List KT} {x:Step} (hp:x.part=false):inT (nd 6 l) x=match Ch x.name l with
   | some t=>.ok t
   | none=>.error 6:=by unfold nd;rw [Tp hp,Ea] <;> rfl
theorem Gf {l:List KT} {i:Nat} {y:Tree} (h:∀ p∈l,p.1=[]):∀ p∈l.set i ([],y),p.1=[]:=by
 intro p hp;rcases List.mem_or_eq_of_mem_set hp with hp | rfl
 ·exact h p hp
 ·rfl
theorem Cr {l:List KT} {x:Step} {y:Tree} (hp:x.part=true) (hn:∀ p∈l,p.1=[]):putT (nd 5 l) x y=nd 5 (l.set x.n.toNat ([],y)):=by
 show (if x.part=true then nd 5 (unn ((A1 l).list.set x.n.toNat ([],y))) else _)=_;rw [if_pos hp,Ea,Jl3 (Gf hn)]
theorem C7 {l:List KT} {x:Step} {y w:Tree} (hp:x.part=false) (hr:Rise l) (hi:Ch x.name l=some w):putT (nd 6 l) x y=nd 6 (Ck x.name y l):=by
 show (if x.part=true then _ else nd 6 (putL x.name y (A8 x.name (A1 l).list)))=_;rw [if_neg (by simp [hp]),Ea,Zx hr];obtain ⟨p,h1,_,h2⟩:=H2 hi;exact ⟨p,h1,h2⟩
theorem Qq {name:List UInt8} {l:List KT} {w:Tree} (h:Ch name l=some w):∃ p∈l,p.1=name:=by
 obtain ⟨p,h1,_,h2⟩:=H2 h;exact ⟨p,h1,h2⟩
theorem L7 {t:Tree} {x:Step} {w y:Tree} (h:Way t x w):inT (putT t x y) x=.ok y:=by
 cases h with
 | list l h hp hn hi =>
  subst h;rw [Cr hp hn,Va hp,List.getElem?_set_self (List.getElem?_eq_some_iff.1 hi).1]
 | obj l h hp hr hi =>
  subst h;rw [C7 hp hr hi,Vv hp,Lf (Qq hi)]
theorem Np {t:Tree} {x x':Step} {w y:Tree} (h:Way t x w) (hx:Bc x) (hx':Bc x') (hne:x≠x'):inT (putT t x y) x'=inT t x':=by
 unfold Bc at hx hx';cases h with
 | list l h hp hn hi =>
  subst h;rw [if_pos hp] at hx;rw [Cr hp hn];cases hp':x'.part
  ·unfold nd;rw [Iw hp' de,Iw hp' de]
  ·rw [if_pos hp'] at hx';have hnn:x.n.toNat≠x'.n.toNat:=fun e=>hne (by
    cases x;cases x';simp_all;omega)
   rw [Va hp',Va hp',List.getElem?_set_ne hnn]
 | obj l h hp hr hi =>
  subst h;rw [if_neg (by simp [hp])] at hx;rw [C7 hp hr hi];cases hp':x'.part
  ·rw [if_neg (by simp [hp'])] at hx';have hnn:x'.name≠x.name:=fun e=>hne (by
    cases x;cases x';simp_all)
   rw [Vv hp',Vv hp',G8 hnn]
  ·unfold nd;rw [Iz hp' de,Iz hp' de]
theorem Ot {t:Tree} {x:Step} {w y z:Tree} (h:Way t x w):putT (putT t x y) x z=putT t x z:=by
 cases h with
 | list l h hp hn hi =>
  subst h;rw [Cr hp hn,Cr hp (Gf hn),Cr hp hn,List.set_set]
 | obj l h hp hr hi =>
  subst h;rw [C7 hp hr hi,C7 hp (Ii hr) (Lf (Qq hi)),C7 hp hr hi,Xa]
theorem J9x {t:Tree} {x x':Step} {w w' y y':Tree} (h:Way t x w) (h':Way t x' w') (hx:Bc x) (hx':Bc x') (hne:x≠x'):putT (putT t x y) x' y'=putT (putT t x' y') x y:=by
 unfold Bc at hx hx';cases h with
 | list l h hp hn hi =>
  subst h;cases h' with
  | list l' h' hp' hn' hi' =>
   rw [if_pos hp] at hx;rw [if_pos hp'] at hx';have hnn:x.n.toNat≠x'.n.toNat:=fun e=>hne (by
    cases x;cases x';simp_all;omega)
   rw [Cr hp hn,Cr hp' (Gf hn),Cr hp' hn,Cr hp (Gf hn),List.set_comm _ _ hnn]
  | obj l' h' hp' hr' hi'=>unfold nd at h';cases h'
 | obj l h hp hr hi =>
  subst h;cases h' with
  | list l' h' hp' hn' hi'=>unfold nd at h';cases h'
  | obj l' h' hp' hr' hi' =>
   have e:l=l':=by
    unfold nd at h';injection h' with _ _ _ _ h5
    have:=congrArg Forest.list h5;rw [Ea,Ea] at this;exact this
   subst e;rw [if_neg (by simp [hp])] at hx;rw [if_neg (by simp [hp'])] at hx';have hnn:x'.name≠x.name:=fun e=>hne (by
    cases x;cases x';simp_all)
   rw [C7 hp hr hi,C7 hp' (Ii hr) (by rw [G8 hnn];exact hi'),C7 hp' hr hi',C7 hp (Ii hr) (by rw [G8 (Ne.symm hnn)];exact hi),Jbr hnn]
theorem Ig {t:Tree} {x:Step} {w:Tree} (ht:okT t) (h:Way t x w):okT w:=by
 cases h with
 | list l h hp hn hi=>subst h;exact (Jdh.1 ht).2.2 _ (List.mem_of_getElem? hi)
 | obj l h hp hr hi =>
  subst h;obtain ⟨p,h1,h2,_⟩:=H2 hi;rw [← h2];exact (Jdh.1 ht).2.2 p h1
def setT:List Step→Tree→Tree→Except Nat Tree
 | [],_,u=>.ok u
 | x :: p,t,u=>match inT t x with
  | .error e=>.error e
  | .ok w=>match setT p w u with
   | .error e=>.error e
   | .ok y=>.ok (putT t x y)
theorem set_comm:∀ {p q:List Step} {t u v a b:Tree},okT t→okT u→okT v→(∀ x∈p,Bc x)→(∀ x∈q,Bc x)→B7 p q=true→setT p t u=.ok a→setT q t v=.ok b→∃ c,setT q a v=.ok c∧setT p b u=.ok c
 | [],q,_,_,_,_,_,_,_,_,_,_,h,_,_=>by cases q <;> simp [B7] at h
 | x :: p,[],_,_,_,_,_,_,_,_,_,_,h,_,_=>by simp [B7] at h
 | x :: p,x' :: q,t,u,v,a,b,ht,hu,hv,hp,hq,h,h1,h2=>by
  rw [setT] at h1 h2;cases hi:inT t x with
  | error e=>rw [hi] at h1;cases h1
  | ok w =>
  cases hi':inT t x' with
  | error e=>rw [hi'] at h2;cases h2
  | ok w' =>
  rw [hi] at h1;rw [hi'] at h2;simp only at h1 h2;cases hz:setT p w u with
  | error e=>rw [hz] at h1;cases h1
  | ok a1 =>
  cases hz':setT q w' v with
  | error e=>rw [hz'] at h2;cases h2
  | ok b1 =>
  rw [hz] at h1;rw [hz'] at h2;simp only at h1 h2;cases h1;cases h2;have hw:=Jv ht hi;have hw':=Jv ht hi';by_cases hxx:x=x'
  ·subst hxx;rw [hi] at hi';cases hi';have hse:F8 x x:=Dc.2 rfl;rw [B7] at h;simp only [hse,decide_true,Bool.not_true,Bool.false_or] at h;obtain ⟨c,c1,c2⟩:=set_comm (Ig ht hw) hu hv (fun a ha=>hp a (List.mem_cons_of_mem _ ha)) (fun a ha=>hq a (List.mem_cons_of_mem _ ha)) h hz hz';refine ⟨putT t x c,?_,?_⟩
   ·rw [setT,L7 hw];simp only;rw [c1];simp only;rw [Ot hw]
   ·rw [setT,L7 hw];simp only;rw [c2];simp only;rw [Ot hw]
  ·have hx:=hp x List.mem_cons_self;have hx':=hq x' List.mem_cons_self;refine ⟨putT (putT t x a1) x' b1,?_,?_⟩
   ·rw [setT,Np hw hx hx' hxx,hi'];simp only;rw [hz']
   ·rw [setT,Np hw' hx' hx (Ne.symm hxx),hi];simp only;rw [hz];simp only;rw [J9x hw hw' hx hx' hxx]
theorem Jjk {r:Regs} {K:L→Prop}:capV r K (.p .snil)=K (.p (.int .i64 0)):=(rfl)
theorem Jfu {s:List UInt8} {i:Nat} (h:i<s.length):Pk (s.take (i+1))=(Pk (s.take i) && (decide (48≤at_ s i) && decide (at_ s i≤57))):=by
 simp only [Pk,List.take_add_one,List.getElem?_eq_getElem h,List.all_append,Ql h];simp [Ja8]
theorem Qp {s:List UInt8} {i:Nat} (h:i<s.length) (hb:at_ s i<48∨57<at_ s i):Pk s=false:=by
 simp only [Pk,List.all_eq_false];rw [Ql h] at hb;exact ⟨s[i],List.getElem_mem h,by simp [Ja8];omega⟩
theorem Jj5 (s:List UInt8) (hs:s.length≤9223372036854775807):Det cx 130 [.p (.str s)] [] (.p (.bool (Pk s))) []:=by
 (refine bgo Tryz.func130 ?_;simp only [go_sem,simprocAttr]);refine SWP.loop (fun i:Nat=>⟨Ba 20 [(0,.p (.str s)),(3,.p (.int .i64 i))],[]⟩) (fun i=>i≤s.length∧Pk (s.take i)=true) (fun i=>s.length - i) 0 Jqc ⟨Nat.zero_le _,rfl⟩ ?_;rintro i ⟨h1,h2⟩;(refine lws ?_;simp only [go_sem,simprocAttr]);(repeat' (first | (apply iteI <;> intro h)|(refine Jqd ?_) | fail))
 ·exact (Qp (i:=i) omg omg).symm
 ·exact (Qp (i:=i) omg omg).symm
 ·refine ⟨i+1,⟨by omega,?_⟩,by omega,Jqc⟩;rw [Jfu omg,h2];simp;omega
 ·rw [List.take_of_length_le omg] at h2;exact h2.symm
theorem M0 (many:Int) (s:List UInt8) (g:Bool) (e:Int) (hs:s.length≤1000000) (he:-9223372036854775808≤e) (he':e≤9223372036854775807):Det cx 101 [.p (.agg [.int .i64 3,.int .i64 many,.str [],.str s,.bool g,.int .i64 e])] [] (.p (.bool (decide (many=0∧Yz s g e)))) []:=by
 (refine bgo Tryz.func101 ?_;simp only [go_sem,simprocAttr]);(repeat' (first | (apply iteI <;> intro h)|(refine Jqd ?_)|((refine Jqa (Jj5 _ omg) ?_);simp only [go_sem,simprocAttr]) | fail))
 all_goals (try simp (disch:=omega) only [Aa,Qs,Ab,Jlh,Mf,Ja0,Jcc,Ja7,Jak] at *)
 all_goals (try rw [show (↑s.length - 1:Int).toNat=s.length - 1 by omega] at *)
 all_goals (rw [Bool.eq_iff_iff])
 all_goals (have hs0:s.length=0 ↔ s=[]:=List.length_eq_zero_iff)
 all_goals (simp only [Yz,decide_eq_true_eq,beq_iff_eq,bne_iff_ne,Bool.false_eq_true,false_iff])
 all_goals (by_cases h0:s=[])
 all_goals (simp only [h0,if_true,if_false] at *)
 all_goals (first | omega | (simp_all <;> omega) | skip)
theorem Ja1 (k m:Int) (nm s:List UInt8) (g:Bool) (e:Int) (hs:s.length≤1000000) (he:-9223372036854775808≤e) (he':e≤9223372036854775807):Det cx 74 [.p (.agg [.int .i64 k,.int .i64 m,.str nm,.str s,.bool g,.int .i64 e])] [] (.p (.bool (decide (G3 k s g e m)))) []:=by
 by_cases hk:k=3
 ·subst hk;(refine bgo Tryz.func74 ?_;simp only [go_sem,simprocAttr]);(repeat' (first | ((refine Jqa (M0 m s g e hs he he') ?_);simp only [go_sem,simprocAttr]) | fail))
  all_goals (first | rfl | (simp [G3];done))
 ·(refine bgo Tryz.func74 ?_;simp only [go_sem,simprocAttr]);(repeat' (first | (apply iteI <;> intro h)|((refine Jqa (Cn s hs) ?_);simp only [go_sem,simprocAttr])|(exfalso;omega)))
  all_goals (rw [Bool.eq_iff_iff])
  all_goals (simp only [G3,decide_eq_true_eq,beq_iff_eq,Bool.and_eq_true,Bool.false_eq_true,false_iff])
  all_goals (first | omega | (simp_all;done)|(simp_all <;> omega))
def nxtR (v:List Node) (i o:Nat):Int:=match nxt v.length (v.drop i) o with
 | some k=>((i+k:Nat):Int)
 | none=>-1
theorem Jha (v:List Node) (i:Nat):nxtR v i 0=i:=by
 unfold nxtR;have:nxt v.length (v.drop i) 0=some 0:=by cases v.drop i <;> rfl
 rw [this];rfl
theorem Jmc {v:List Node} {i o:Nat} (h:v.length≤i) (ho:0<o):nxtR v i o = -1:=by
 unfold nxtR;rw [List.drop_eq_nil_of_le h];cases o with
 | zero=>omega
 | succ o=>rfl
theorem Jlc {v:List Node} {i o:Nat} {n:Node} (h:v[i]? = some n) (ho:0<o) (hb:n.many<0∨(v.length:Int)<n.many):nxtR v i o = -1:=by
 have hi:=(List.getElem?_eq_some_iff.1 h).1;unfold nxtR;rw [List.drop_eq_getElem_cons hi,(List.getElem?_eq_some_iff.1 h).2];cases o with
 | zero=>omega
 | succ o=>simp only [nxt];rw [if_pos hb]
theorem Jfk {v:List Node} {i o:Nat} {n:Node} (h:v[i]? = some n) (hb:¬ (n.many<0∨(v.length:Int)<n.many)):nxtR v i (o+1)=nxtR v (i+1) (o+n.many.toNat):=by
 have hi:=(List.getElem?_eq_some_iff.1 h).1;unfold nxtR;rw [List.drop_eq_getElem_cons hi,(List.getElem?_eq_some_iff.1 h).2];simp only [nxt];rw [if_neg hb];cases nxt v.length (v.drop (i+1)) (o+n.many.toNat) with
 | none=>rfl
 | some k=>simp only [Option.map_some];omega
theorem U5 {v:List Node} {i:Nat} {n:Node} (h:v[i]? = some n):(valL v)[i]? = some [.int .i64 n.kind,.int .i64 n.many,.str n.name,.str n.s,.bool n.neg,.int .i64 n.e]:=by
 simp [valL,h,Node.cells]
theorem Uv (v:List Node) (hv:v.length≤10000):Det cx 73 [.p (.sl (valL v)),.p (.int .i64 0)] [] (.p (.int .i64 (nxtR v 0 1))) []:=by
 (refine bgo Tryz.func73 ?_;simp only [go_sem,simprocAttr]);refine SWP.loop (fun x:Nat×Nat=>⟨Ba 41 [(0,.p (.sl (valL v))),(1,.p (.int .i64 x.1)),(5,.p (.int .i64 x.2))],[]⟩) (fun x=>x.1≤v.length∧x.2≤1+x.1 * 10000∧nxtR v x.1 x.2=nxtR v 0 1) (fun x=>v.length - x.1) (0,1) Jqc ⟨Nat.zero_le _,by simp,rfl⟩ ?_;rintro ⟨i,o⟩ ⟨h1,h2,h3⟩;simp only at h1 h2 h3;by_cases ho:o=0
 ·subst ho;rw [Jha] at h3;(refine lws ?_;simp only [go_sem,simprocAttr]);rw [h3]
 ·have c0:((0:Int)<(o:Int))=True:=eq_true omg;by_cases hi:¬ i<v.length
  ·have c1:((v.length:Int)≤(i:Int))=True:=eq_true omg;rw [Jmc omg omg] at h3;have hg:=c1;have c2:=c1;have c3:=c1;have w1:=c1;have w2:=c1;have w3:=c1;(refine lws ?_;simp only [go_sem,simprocAttr,A7,c0,c1]);rw [← h3]
  ·have hi:=Decidable.not_not.1 hi;have c1:((v.length:Int)≤(i:Int))=False:=eq_false omg;obtain ⟨n,hn⟩:∃ n,v[i]? = some n:=⟨_,List.getElem?_eq_getElem hi⟩
   have hg:=U5 hn;by_cases hb:n.many<0∨(v.length:Int)<n.many
   ·rw [Jlc hn omg hb] at h3;have w1:=c1;have w2:=c1;have w3:=c1;by_cases hb1:n.many<0
    ·have c2:(n.many<0)=True:=eq_true hb1;have c3:=c1;(refine lws ?_;simp only [go_sem,simprocAttr,A7,c0,c1,c2,hg]);rw [← h3]
    ·have c2:(n.many<0)=False:=eq_false hb1;have c3:((v.length:Int)<n.many)=True:=eq_true omg;(refine lws ?_;simp only [go_sem,simprocAttr,A7,c0,c1,c2,c3,hg]);rw [← h3]
   ·have c2:(n.many<0)=False:=eq_false omg;have c3:((v.length:Int)<n.many)=False:=eq_false omg;obtain ⟨o',rfl⟩:∃ o',o=o'+1:=⟨o - 1,by omega⟩
    rw [Jfk hn hb] at h3;have w1:IntKind.i64.wrap (((o'+1:Nat):Int) - 1)=(o':Int):=by rw [Aa omg omg];omega
    have w2:IntKind.i64.wrap ((o':Int)+n.many)=((o'+n.many.toNat:Nat):Int):=by rw [Aa omg omg];omega
    have w3:=wj1 (i:=i) omg;(refine lws ?_;simp only [go_sem,simprocAttr,A7,c0,c1,c2,c3,hg,w1,w2,w3]);exact ⟨(i+1,o'+n.many.toNat),⟨by simp only;omega,by simp only;omega,h3⟩,by simp only;omega,Jqc⟩
theorem P8 {v:List Node} {i:Nat} {n:Node} (h:v[i]? = some n):(valL v)[i]? = some [.int .i64 n.kind,.int .i64 n.many,.str n.name,.str n.s,.bool n.neg,.int .i64 n.e]:=by
 simp [valL,h,Node.cells]
def Uw (x y:Node):Prop:=x.kind=y.kind∧x.many=y.many∧x.name=y.name∧x.s=y.s∧x.neg=y.neg∧x.e=y.e
theorem Qo {x y:Node}:Uw x y ↔ x=y:=by
 unfold Uw;constructor
 ·rintro ⟨h1,h2,h3,h4,h5,h6⟩;cases x;cases y;simp_all
 ·rintro rfl;exact ⟨rfl,rfl,rfl,rfl,rfl,rfl⟩
instance (x y:Node):Decidable (Uw x y):=inferInstanceAs (Decidable (_∧_))
instance:DecidableEq Node:=fun x y=>decidable_of_iff _ (Qo (x:=x) (y:=y))
theorem Jma {x y:Node}:(x.kind == y.kind && (x.many == y.many && (x.name == y.name && (x.s == y.s && (x.neg == y.neg && x.e == y.e)))))=decide (x=y):=by
 rw [Bool.eq_iff_iff,decide_eq_true_eq,← Qo];simp [Uw]
theorem Z3 (v:List Node) (i:Nat) (nm:List UInt8) (k:Int) (s:List UInt8) (g:Bool) (e:Int) (kids:Forest) (rest:List Node) (hv:v.length≤1000000) (h:v.drop i=(Tree.mk k s g e kids).enc nm ++ rest) (hs:∀ n∈v,n.name.length≤1000000):Det cx 75 [.p (.sl (valL v)),.p (.int .i64 i)] [] (.p (.bool (@decide (Eh k kids.list) (Classical.propDecidable _)))) []:=by
 have hll:=Jqv kids;rw [A6] at h;have hg0:=D5 h;rw [C9] at hg0;have hb:=L9 h sm;simp only [List.cons_append,List.length_cons,List.length_append] at hb;have w0:=wj1 (i:=i) omg;(refine bgo Tryz.func75 ?_;simp only [go_sem,simprocAttr,w0]);refine SWP.loop (fun x:Nat×Nat×Forest=>⟨Ba 75 [(0,.p (.sl (valL v))),(1,.p (.int .i64 i)),(5,.p (.int .i64 x.2.1)),(6,.p (.int .i64 x.1))],[]⟩) (fun x=>x.1+x.2.2.len=kids.len∧v.drop x.2.1=x.2.2.enc ++ rest∧x.2.1+x.2.2.enc.length=i+1+kids.enc.length∧(Eh k kids.list ↔ Eh k x.2.2.list)) (fun x=>x.2.2.enc.length) (0,i+1,kids) Jqc ⟨by simp,by simp only;rw [← List.drop_drop,h];rfl,by simp only,Iff.rfl⟩ ?_;rintro ⟨j,a,F⟩ ⟨h1,h2,h3,h4⟩;simp only at h1 h2 h3 h4
 match F,h1,h2,h3,h4 with
 | .nil,h1,h2,h3,h4 =>
  simp only [Forest.len] at h1;have c1:((j:Int)<(kids.len:Int))=False:=eq_false omg;have hK:=h4.2 (Sb k);have hga:=c1;have w1:=c1;have c7:=c1;have hgb:=c1;(refine lws ?_;simp only [go_sem,simprocAttr,hg0,c1]);exact (@decide_eq_true _ (Classical.propDecidable _) hK).symm
 | .cons nm' t r,h1,h2,h3,h4 =>
  rw [F2] at h1;rw [A0] at h2 h3;have hp:=Et t nm';simp only [List.length_append] at h3;obtain ⟨k',n',s',g',e',hga⟩:∃ k' n' s' g' e',(valL v)[a]? = some [.int .i64 k',.int .i64 n',.str nm',.str s',.bool g',.int .i64 e']:=Mi (t:=t) (b:=r.enc ++ rest) (by rw [h2,List.append_assoc]);have c1:((j:Int)<(kids.len:Int))=True:=eq_true omg;rw [Forest.list,Jaa] at h4;simp only at h4;have w1:=wj1 (i:=j) omg;have hnl:nm'.length≤1000000:=by
   have:v[a]? = some ⟨k',n',nm',s',g',e'⟩:=by
    cases hva:v[a]? with
    | none=>simp [valL,hva] at hga
    | some n =>
     have:=P8 hva;rw [hga] at this;simp only [Option.some.injEq,List.cons.injEq,PV.int.injEq,PV.str.injEq,PV.bool.injEq,true_and,and_true] at this;obtain ⟨h1,h2,h3,h4,h5,h6⟩:=this;congr 1;cases n;simp_all
   exact hs _ (List.mem_of_getElem? this)
  have hNx:=Cs v a nm' t (r.enc ++ rest) hv (by rw [h2,List.append_assoc]);have hno:((k=5→nm'=[])∧valid nm'=true∧(k=6→∀ q,r.list.head? = some q→Op.bytesLess nm' q.1=true)∧Eh k r.list→False)→(false = @decide (Eh k kids.list) (Classical.propDecidable _)):=fun h=>((@decide_eq_false_iff_not _ (Classical.propDecidable _)).2 fun hk=>h (h4.1 hk)).symm
  have hd:v.drop (a+(t.enc nm').length)=r.enc ++ rest:=by rw [← List.drop_drop,h2,List.append_assoc,List.drop_left]
  match r,h1,h2,h3,h4,hNx,hno,hd with
  | .nil,h1,h2,h3,h4,hNx,hno,hd =>
   simp only [Forest.len] at h1;have c7:(((j+1:Nat):Int)<(kids.len:Int))=False:=eq_false omg;have hgb:=c1;(refine lws ?_;simp only [go_sem,simprocAttr,hg0,c1,hga]);(repeat' (first | (apply iteI <;> intro h)|((first | (refine Jql ?_)|(refine Jqa (Cn nm' hnl) ?_)|(refine Jqa (hNx) ?_));simp only [go_sem,simprocAttr,hg0,w1,c7])|(exfalso;omega)))
   all_goals first
    | (
     refine hno ?_;rintro ⟨a1,a2,a3,a4⟩;have h9:=(show valid nm'=false by assumption)
     rw [a2] at h9;cases h9)
    | (
     refine hno ?_;rintro ⟨a1,a2,a3,a4⟩;clear hno hNx h4 hga hg0 hd h2 hs;simp_all)
    | (
     refine ⟨(j+1,a+(t.enc nm').length,.nil),⟨by simp only [Forest.len];omega,hd,by simp only;omega,h4.trans ⟨fun q=>q.2.2.2,fun q=>⟨?_,?_,fun _ q hq=>(by cases hq),q⟩⟩⟩,by simp only [A0,List.length_append];omega,Jqc⟩
     all_goals (clear hno hNx h4 hga hg0 hd h2 hs;simp_all))
  | .cons nm2 t2 r2,h1,h2,h3,h4,hNx,hno,hd =>
   simp only [Forest.len] at h1;have c7:(((j+1:Nat):Int)<(kids.len:Int))=True:=eq_true omg;obtain ⟨k2,n2,s2,g2,e2,hgb⟩:∃ k' n' s' g' e',(valL v)[a+(t.enc nm').length]? = some [.int .i64 k',.int .i64 n',.str nm2,.str s',.bool g',.int .i64 e']:=Mi (t:=t2) (b:=r2.enc ++ rest) (by rw [hd,A0,List.append_assoc]);(refine lws ?_;simp only [go_sem,simprocAttr,hg0,c1,hga]);(repeat' (first | (apply iteI <;> intro h)|((first | (refine Jql ?_)|(refine Jqa (Cn nm' hnl) ?_)|(refine Jqa (hNx) ?_));simp only [go_sem,simprocAttr,hg0,hga,w1,c7,hgb])|(exfalso;omega)))
   all_goals first
    | (
     refine hno ?_;rintro ⟨a1,a2,a3,a4⟩;have h9:=(show valid nm'=false by assumption)
     rw [a2] at h9;cases h9)
    | (
     refine hno ?_;rintro ⟨a1,a2,a3,a4⟩;have a5:=fun hk=>a3 hk (nm2,t2) rfl
     clear a3 hno hNx h4 hga hg0 hd h2 hs hgb;simp_all)
    | (
     refine ⟨(j+1,a+(t.enc nm').length,.cons nm2 t2 r2),⟨by simp only [Forest.len];omega,hd,by simp only;omega,h4.trans ⟨fun q=>q.2.2.2,fun q=>⟨?_,?_,fun hk q hq=>?_,q⟩⟩⟩,by simp only [A0,List.length_append];omega,Jqc⟩
     all_goals (clear hno hNx h4 hga hg0 hd h2 hs hgb)
     all_goals first
      | (simp_all;done)
      | (simp only [Forest.list,List.head?_cons,Option.some.injEq] at hq;subst hq;simp_all))
theorem Jda:∀ {a b c d:Forest},a.app b=c.app d→a.len=c.len→a=c∧b=d
 | .nil,b,.nil,d,h,_=>⟨rfl,h⟩
 | .nil,_,.cons _ _ _,_,_,h=>by simp [Forest.len] at h
 | .cons _ _ _,_,.nil,_,_,h=>by simp [Forest.len] at h
 | .cons nm t a,b,.cons nm' t' c,d,h,hl=>by
  rw [Forest.app,Forest.app] at h;injection h with h1 h2 h3
  obtain ⟨rfl,rfl⟩:=Jda (a:=a) (b:=b) (c:=c) (d:=d) h3 (by simpa [Forest.len] using hl);exact ⟨by rw [h1,h2],rfl⟩
theorem W5:∀ (n:Nat) {F G:Forest},F.enc.length≤n→F.len=G.len→F.enc=G.enc→F=G
 | _,.nil,.nil,_,_,_=>rfl
 | _,.nil,.cons _ _ _,_,h,_=>by simp [Forest.len] at h
 | _,.cons _ _ _,.nil,_,h,_=>by simp [Forest.len] at h
 | 0,.cons nm t r,.cons _ _ _,h,_,_=>by
  have:=Et t nm;rw [A0,List.length_append] at h;omega
 | n+1,.cons nm (.mk k s g e kids) r,.cons nm' (.mk k' s' g' e' kids') r',h,hl,he=>by
  rw [A0,A6,List.length_append,List.length_cons] at h;rw [A0,A0,A6,A6,List.cons_append,List.cons_append] at he;injection he with h1 h2
  injection h1 with g1 g2 g3 g4 g5 g6
  rw [← Jqg,← Jqg] at h2;simp only [Forest.len] at hl;have hk:kids.len=kids'.len:=by omega
  have:=W5 n (F:=kids.app r) (G:=kids'.app r') (by rw [Jqg,List.length_append];omega) (by rw [Jrk,Jrk];omega) h2;obtain ⟨rfl,rfl⟩:=Jda this hk;rw [g1,g3,g4,g5,g6]
theorem Jmz {t u:Tree} {a b:List UInt8} (h:t.enc a=u.enc b):a=b∧t=u:=by
 have:=W5 (Forest.cons a t .nil).enc.length (F:=.cons a t .nil) (G:=.cons b u .nil) (Nat.le_refl _) rfl (by rw [A0,A0,h]);injection this with h1 h2 _
 exact ⟨h1,h2⟩
theorem Jf9 {t:Tree}:R0 (t.enc []) ↔ okT t:=by
 constructor
 ·rintro ⟨u,hu,h⟩;obtain ⟨_,rfl⟩:=Jmz h;exact hu
 ·exact fun h=>⟨t,h,rfl⟩
theorem Zg {v:List Node} (h:R0 v):nxtR v 0 1=v.length:=by
 obtain ⟨t,_,rfl⟩:=h;have:=Jcx.2 ⟨[],t,rfl⟩;unfold nxtR;rw [List.drop_zero,this];simp
theorem Jf6 {v:List Node} (h:nxtR v 0 1=v.length):∃ nm t,v=Tree.enc nm t:=by
 refine Jcx.1 ?_;unfold nxtR at h;rw [List.drop_zero] at h;cases hn:nxt v.length v 1 with
 | none=>rw [hn] at h;simp at h
 | some k=>rw [hn] at h;simp at h;rw [show k=v.length by omega]
structure NodeFit (n:Node):Prop where
 s:n.s.length≤1000000
 name:n.name.length≤1000000
 e0:-9223372036854775808≤n.e
 e1:n.e≤9223372036854775807
theorem I8 {v:List Node} (h:¬ R0 v):false=Jw v:=by
 cases hb:Jw v with
 | false=>rfl
 | true=>exact absurd (Iq.1 hb) h
theorem Jp (v:List Node) (hv:v.length≤10000) (hf:∀ n∈v,NodeFit n):Det cx 53 [.p (.sl (valL v))] [] (.p (.bool (Jw v))) []:=by
 cases v with
 | nil =>
  have hb:false=Jw []:=I8 (by
   rintro ⟨t,_,h⟩;have:=congrArg List.length h;have h1:=Et t [];simp at this;omega)
  have hg0:True:=trivial;have c0:=hg0;have c1:=hg0;have c2:=hg0;have c3:=hg0;(refine bgo Tryz.func53 ?_;simp only [go_sem,simprocAttr,A7]);exact hb
 | cons n r =>
  have hg0:=U5 (v:=n :: r) (i:=0) (n:=n) rfl;have c0:(((n :: r).length:Int)=0)=False:=eq_false (by simp;omega);have c1:((0:Int)<((n :: r).length:Int))=True:=eq_true sm;have hN:=Uv (n :: r) hv;generalize hvv:n :: r=v at *
  by_cases hnm:n.name=[]
  ·by_cases hnx:nxtR v 0 1=v.length
   ·obtain ⟨nm,t,ht⟩:=Jf6 hnx;have hnm0:nm=[]:=by
     cases t with
     | mk k s g e kids =>
      rw [A6,← hvv] at ht;have:=(List.cons.inj ht).1;rw [this] at hnm;exact hnm
    subst hnm0;have c2:(n.name=[])=True:=eq_true hnm;have c3:(nxtR v 0 1=(v.length:Int))=True:=eq_true hnx;(refine bgo Tryz.func53 ?_;simp only [go_sem,simprocAttr,A7,hg0,c0,c2]);(repeat' (first | ((refine Jqa (hN) ?_);simp only [go_sem,simprocAttr,A7,c3]) | fail));have hB:∀ b:Bool,(b=true ↔ okT t)→b=Jw v:=by
     intro b hb;rw [Bool.eq_iff_iff,hb,Iq,ht,Jf9]
    have hend:∀ {i:Nat} {F:Forest},i+F.enc.length=v.length→True:=fun _=>trivial
    refine SWP.loop (fun x:Nat×Forest=>⟨Ba 39 [(0,.p (.sl (valL v))),(3,.p (.int .i64 x.1))],[]⟩) (fun x=>v.drop x.1=x.2.enc∧x.1+x.2.enc.length=v.length∧(okT t ↔ okF x.2)) (fun x=>v.length - x.1) (0,.cons [] t .nil) Jqc ⟨by rw [A0,Bl,List.append_nil,List.drop_zero,ht],by rw [A0,Bl,List.append_nil,ht];simp,by rw [Fs];exact ⟨fun h=>⟨h,I6⟩,fun h=>h.1⟩⟩ ?_;rintro ⟨i,F⟩ ⟨h1,h2,h3⟩;simp only at h1 h2 h3
    match F,h1,h2,h3 with
    | .nil,h1,h2,h3 =>
     rw [Bl] at h2;have c4:((i:Int)<(v.length:Int))=False:=eq_false (by simp at h2;omega);have hga:=c4;have w1:=c4;(refine lws ?_;simp only [go_sem,simprocAttr,A7,c4]);exact hB true (by rw [h3];simp [I6])
    | .cons nm' (.mk k s g e kids) r,h1,h2,h3 =>
     rw [A0,A6] at h1 h2;simp only [List.length_append,List.length_cons] at h2;have c4:((i:Int)<(v.length:Int))=True:=eq_true omg;have hga:=D5 h1;rw [C9] at hga;have w1:=wj1 (i:=i) omg;rw [Jjp] at h3;have hmem:(⟨k,kids.len,nm',s,g,e⟩:Node)∈v:=by
      have:(⟨k,kids.len,nm',s,g,e⟩:Node)∈v.drop i:=by rw [h1];simp
      exact List.mem_of_mem_drop this
     have hfn:=hf _ hmem;have hpl:=Ja1 k kids.len nm' s g e hfn.s hfn.e0 hfn.e1;have hri:=Z3 v i nm' k s g e kids r.enc omg (by rw [h1,A6]) fun n hn=>(hf n hn).name
     have hcont:(okT t ↔ okF (kids.app r))→∃ y:Nat×Forest,(v.drop y.1=y.2.enc∧y.1+y.2.enc.length=v.length∧(okT t ↔ okF y.2))∧v.length - y.1<v.length - i∧y=(i+1,kids.app r):=fun h =>
      ⟨(i+1,kids.app r),⟨by simp only;rw [← List.drop_drop,h1,Jqg];rfl,by simp only;rw [Jqg,List.length_append];omega,h⟩,by simp only;omega,rfl⟩
     by_cases hn1:G3 k s g e kids.len
     ·rw [decide_eq_true hn1] at hpl;by_cases hk1:Eh k kids.list
      ·rw [@decide_eq_true _ (Classical.propDecidable _) hk1] at hri;(refine lws ?_;simp only [go_sem,simprocAttr,A7,c4,hga]);(repeat' (first | ((first | (refine Jqa (hpl) ?_)|(refine Jqa (hri) ?_));simp only [go_sem,simprocAttr,w1]) | fail));obtain ⟨y,p1,p2,rfl⟩:=hcont (h3.trans ⟨fun h=>h.2.2,fun h=>⟨hn1,hk1,h⟩⟩);exact ⟨_,p1,p2,Jqc⟩
      ·rw [@decide_eq_false _ (Classical.propDecidable _) hk1] at hri;(refine lws ?_;simp only [go_sem,simprocAttr,A7,c4,hga]);(repeat' (first | ((first | (refine Jqa (hpl) ?_)|(refine Jqa (hri) ?_));simp only [go_sem,simprocAttr]) | fail));exact hB false (by rw [h3];simp [hk1])
     ·rw [decide_eq_false hn1] at hpl;(refine lws ?_;simp only [go_sem,simprocAttr,A7,c4,hga]);(repeat' (first | ((refine Jqa (hpl) ?_);simp only [go_sem,simprocAttr]) | fail));exact hB false (by rw [h3];simp [hn1])
   ·have c2:(n.name=[])=True:=eq_true hnm;have c3:(nxtR v 0 1=(v.length:Int))=False:=eq_false hnx;have hb:=I8 (v:=v) fun h=>hnx (Zg h)
    have c4:=hg0;have hga:=hg0;have w1:=hg0;(refine bgo Tryz.func53 ?_;simp only [go_sem,simprocAttr,A7,hg0,c0,c2]);(repeat' (first | ((refine Jqa (hN) ?_);simp only [go_sem,simprocAttr,A7,c3]) | fail));exact hb
  ·have c2:(n.name=[])=False:=eq_false hnm;have c3:=c2;have c4:=hg0;have hga:=hg0;have w1:=hg0;have hb:=I8 (v:=v) (by
    rintro ⟨t,_,h⟩;cases t with
    | mk k s g e kids =>
     rw [A6,← hvv] at h;have:=(List.cons.inj h).1;rw [this] at hnm;exact hnm rfl)
   (refine bgo Tryz.func53 ?_;simp only [go_sem,simprocAttr,A7,hg0,c0,c2]);exact hb
theorem Ww {s:List UInt8} {m:Nat} (h1:m≤s.length) (h2:∀ j,j<m→H3 s j) (h3:m<s.length→¬ H3 s m):Dm s=m:=by
 have hle:=P3 s;rcases Nat.lt_trichotomy (Dm s) m with h | h | h
 ·exact absurd (h2 _ h) (Jam omg)
 ·exact h
 ·exact absurd (Sh h) (h3 omg)
theorem J35:∀ {s:List UInt8},(∀ c∈s,c.toNat<128)→valid s=true:=by
 intro s h;refine Jb.2 ⟨s.map fun c=>(c.toNat:Int),?_,?_⟩
 ·intro r hr;obtain ⟨c,hc,rfl⟩:=List.mem_map.1 hr;have:=h c hc;unfold Cy;omega
 ·induction s with
  | nil=>rfl
  | cons c s ih =>
   rw [List.map_cons,Ki,← ih fun d hd=>h d (List.mem_cons_of_mem _ hd)];have hc:=h c List.mem_cons_self;have:utf (c.toNat:Int)=[c]:=by
    unfold utf;rw [Nb ⟨by omega,by omega⟩];have e:((c.toNat:Int) % 256).toNat=c.toNat:=by omega
    simp [u8of,e]
   rw [this];rfl
theorem J3p {s:List UInt8} {j:Nat} (h:H3 s j):at_ s j<128:=by
 unfold H3 letP figP at h;omega
theorem Jzg {s:List UInt8} (h:(Bw s).2≠0):Bc (Bw s).1∧(Bw s).1.part=false∧s.take (Bw s).2=Bv (Bw s).1∧(Bw s).2≤s.length:=by
 have hle:=Jf2 s;unfold Bw at h ⊢;split at h
 case isFalse=>exact absurd rfl h
 rename_i h46;rw [if_pos h46];obtain ⟨r,rfl⟩:∃ r,s=46 :: r:=by
  cases s with
  | nil=>simp at h46
  | cons c r=>simp at h46;exact ⟨r,by rw [h46]⟩
 simp only [List.drop_succ_cons,List.drop_zero] at h ⊢;have hwl:=P3 r;split at h
 ·rename_i hw;rw [if_pos hw];have hwd:isWd (r.take (Dm r)):=by
   refine ⟨fun e=>?_,Ww (Nat.le_refl _) (fun j hj=>?_) (fun h=>absurd h (Nat.lt_irrefl _))⟩
   ·have:=congrArg List.length e;rw [List.length_take,List.length_nil] at this;omega
   ·simp at hj;have:=Sh (s:=r) (j:=j) omg;unfold H3 at this ⊢;rw [J6a omg];exact this
  refine ⟨?_,rfl,?_,by simp;omega⟩
  ·unfold Bc;rw [if_neg sm];refine ⟨rfl,J35 fun c hc=>?_⟩;obtain ⟨j,hj,rfl⟩:=List.getElem_of_mem hc;simp at hj;have:=J3p (Sh (s:=r) (j:=j) omg);rw [Ql omg] at this;simpa using this
  ·unfold Bv;rw [if_neg sm,if_pos hwd,List.take_succ_cons]
 ·rename_i hw;rw [if_neg hw];split at h
  ·exact absurd rfl h
  ·rename_i hc;rw [if_neg hc];simp only [not_or,ne_eq,Decidable.not_not] at hc;obtain ⟨c1,c2,c3⟩:=hc;have hg:=Jni c1;refine ⟨?_,rfl,?_,by simp;omega⟩
   ·unfold Bc;rw [if_neg sm];exact ⟨rfl,hg.1⟩
   ·unfold Bv;rw [if_neg sm,if_neg c2,List.take_succ_cons,c3]
theorem J9a {r:List UInt8} (h0:dgR 7 r≠[]) (h1:¬ (at_ r 0=48∧1<(dgR 7 r).length)):r.take (dgR 7 r).length=dgR 7 r∧Lib.decDigits (valD (dgR 7 r))=dgR 7 r:=by
 have hp:=Jdy 7 r;have hall:=Jc6 7 r;generalize dgR 7 r=t at *
 have hlt:0<t.length:=List.length_pos_iff.2 h0;have ha0:at_ t 0=at_ r 0:=by
  rw [hp];simp only [at_,List.getD_eq_getElem?_getD];rw [List.getElem?_take_of_lt omg]
 exact ⟨hp.symm,(Sa (t.length - 1) t omg hall (by rw [ha0];omega)).1⟩
theorem J00 {s:List UInt8} (h:(Ce s).2≠0):Bc (Ce s).1∧(Ce s).1.part=true∧s.take (Ce s).2=Bv (Ce s).1∧(Ce s).2≤s.length:=by
 have hle:=Zo s;have h91:s.take 1=[91]:=by
  unfold Ce at h;split at h
  ·rename_i hc;exact hc.1
  ·exact absurd rfl h
 obtain ⟨r,rfl⟩:∃ r,s=91 :: r:=by
  cases s with
  | nil=>simp at h91
  | cons c r=>simp at h91;exact ⟨r,by rw [h91]⟩
 obtain ⟨g1,g2,g3,g4⟩:=Jxw h;have hf:=Jle g1 g2 g3 g4;have hlen:=Jd2 7 r;rw [hf];rw [hf] at hle;refine ⟨?_,rfl,?_,hle⟩
 ·unfold Bc;rw [if_pos rfl];exact ⟨rfl,by simp only;omega,by simp only;omega⟩
 ·unfold Bv;rw [if_pos rfl];simp only [Lib.itoa_nonneg];obtain ⟨hq,hcan⟩:=J9a g1 g2;rw [hcan,List.take_succ_cons];congr 1;rw [List.take_add_one,hq,g4];rfl
theorem J40 {s:List UInt8} {i:Nat} (hi:0<i) (h:(Ee s i).2≠0):Bc (Ee s i).1∧(s.drop i).take (Ee s i).2=Bv (Ee s i).1:=by
 unfold Ee at h ⊢;split at h
 ·rename_i hf;rw [if_pos hf];have:=Jzg hf;exact ⟨this.1,this.2.2.1⟩
 ·rename_i hf;rw [if_neg hf,if_neg omg];rw [if_neg omg] at h;have:=J00 h;exact ⟨this.1,this.2.2.1⟩
theorem Jzh:∀ (f:Nat) (s:List UInt8) (i:Nat) (p:List Step),0<i→i≤s.length→p.length≤20→∃ q,(Fl s f i p).1=p ++ q∧(∀ x∈q,Bc x)∧(Fl s f i p).1.length≤20∧s.drop i=Br q ++ s.drop (Fl s f i p).2∧(Fl s f i p).2≤s.length
 | 0,s,i,p,_,hi,hp=>⟨[],by simp [Fl],by simp,by simpa [Fl] using hp,by simp [Fl,Br],by simpa [Fl] using hi⟩
 | f+1,s,i,p,h0,hi,hp=>by
  rw [Fl];split
  ·rename_i hc;obtain ⟨c1,c2,c3⟩:=hc;obtain ⟨g1,g2⟩:=J40 h0 c3;have hle:=Jwf hi;obtain ⟨q,k1,k2,k3,k4,k5⟩:=Jzh f s (i+(Ee s i).2) (p ++ [(Ee s i).1]) omg hle (by simp;omega);refine ⟨(Ee s i).1 :: q,by rw [k1];simp,fun x hx=>?_,k3,?_,k5⟩
   ·rcases List.mem_cons.1 hx with rfl | hx
    ·exact g1
    ·exact k2 x hx
   ·have e:Br ((Ee s i).1 :: q)=Bv (Ee s i).1 ++ Br q:=rfl;rw [e,← g2,List.append_assoc,← k4,← List.drop_drop,List.take_append_drop]
  ·exact ⟨[],by simp,by simp,hp,by simp [Br],hi⟩
theorem J7y {s:List UInt8} (h:(Je s).2.2=0):(Je s).2.1=0∧E9 (Je s).1∧Hy (Je s).1=s:=by
 unfold Je at h ⊢;by_cases h1:s=[46]
 ·rw [if_pos h1];exact ⟨rfl,⟨by simp,by simp⟩,by rw [h1];rfl⟩
 ·rw [if_neg h1] at h ⊢;split at h
  ·cases h
  ·rename_i hc;rw [if_neg hc];simp only [not_or,Nat.not_lt] at hc;obtain ⟨c1,c2⟩:=hc;refine ⟨rfl,?_⟩;simp only;unfold Mp at c1 c2 ⊢;rw [Fl] at c1 c2 ⊢;split at c2
   ·rename_i hd;rw [if_pos hd] at c1 ⊢;obtain ⟨d1,_,d3⟩:=hd;have hle:=Jwf (s:=s) (i:=0) (Nat.zero_le _);obtain ⟨q,k1,k2,k3,k4,k5⟩:=Jzh s.length s (0+(Ee s 0).2) ([] ++ [(Ee s 0).1]) omg hle sm;have hend:(Fl s s.length (0+(Ee s 0).2) ([] ++ [(Ee s 0).1])).2=s.length:=by omega
    rw [hend,List.drop_length,List.append_nil] at k4;rw [k1] at k3 ⊢;simp only [List.nil_append,List.cons_append,Nat.zero_add] at *
    unfold Ee at d3 k4 k3 ⊢;simp only [List.drop_zero] at d3 k4 k3 ⊢;by_cases hf:(Bw s).2≠0
    ·rw [if_pos hf] at k4 k3 ⊢;obtain ⟨f1,f2,f3,_⟩:=Jzg hf;refine ⟨⟨k3,fun x hx=>?_⟩,?_⟩
     ·rcases List.mem_cons.1 hx with rfl | hx
      ·exact f1
      ·exact k2 x hx
     ·unfold Hy;simp only;rw [if_neg (by rw [f2];simp)];have e:Br ((Bw s).1 :: q)=Bv (Bw s).1 ++ Br q:=rfl;rw [e,← f3,← k4,List.take_append_drop]
    ·rw [if_neg hf,if_pos trivial] at d3 k4 k3 ⊢;split at d3
     ·rename_i hp;rw [if_pos hp] at k4 k3 ⊢;obtain ⟨p1,p2⟩:=hp;obtain ⟨f1,f2,f3,_⟩:=J00 p2;obtain ⟨r,rfl⟩:∃ r,s=46 :: r:=by
       cases s with
       | nil=>simp at p1
       | cons c r=>simp at p1;exact ⟨r,by rw [p1]⟩
      simp only [List.drop_succ_cons,List.drop_zero] at *
      refine ⟨⟨k3,fun x hx=>?_⟩,?_⟩
      ·rcases List.mem_cons.1 hx with rfl | hx
       ·exact f1
       ·exact k2 x hx
      ·unfold Hy;simp only;rw [if_pos f2];have e:Br ((Ce r).1 :: q)=Bv (Ce r).1 ++ Br q:=rfl;rw [e,← f3,← k4,List.take_append_drop]
     ·exact absurd rfl d3
   ·simp at c2
theorem J7c {s:List UInt8} (h:(Je s).2.2≠0):(Je s).2.2=1∧(Je s).1=[]∧(Je s).2.1≤s.length:=by
 unfold Je at h ⊢;by_cases h1:s=[46]
 ·rw [if_pos h1] at h;exact absurd rfl h
 ·rw [if_neg h1] at h ⊢;split at h
  ·rename_i hc;rw [if_pos hc];refine ⟨rfl,rfl,?_⟩;have key:∀ (f i:Nat) (p:List Step),i≤s.length→(Fl s f i p).2≤s.length:=by
    intro f
    induction f with
    | zero=>intro i p hi;exact hi
    | succ f ih =>
     intro i p hi;rw [Fl];split
     ·exact ih _ _ (Jwf hi)
     ·exact hi
   exact key _ _ _ (Nat.zero_le _)
  ·exact absurd rfl h
structure EFit (n:Node):Prop where
 s:n.s.length≤9223372036854775807
 name:n.name.length≤9223372036854775807
 e0:-9223372036854775808≤n.e
 e1:n.e≤9223372036854775807
def tOne:Tree:=.mk 2 [] false 0 .nil
def tTwo:Tree:=.mk 5 [] false 0 (.cons [] tOne (.cons [] tOne .nil))
def tObj:Tree:=.mk 6 [] false 0 (.cons [97] tTwo .nil)
def tSet:Tree:=.mk 6 [] false 0 (.cons [97] tOne .nil)
def ndL (k m:Int) (nm:List UInt8):List PV:=[.int .i64 k,.int .i64 m,.str nm,.str [],.bool false,.int .i64 0]
def pA:List Step:=[⟨false,[97],0⟩,⟨true,[],0⟩,⟨false,[98,32,99],0⟩]
end Go.LX
namespace Go.LX
open Go Go.Proofs Go.RowKit Go.ChangeShapes Go.WideShapes Go.ChangeAt
section
variable {H:Type} {enc:TypeId×Value→H} {P:Program}
theorem Kz (hl:laidOutB P=true) {W W':World} {sp:Nat→Bool}:∀ (ts:List TypeId) (vs:List Value) (ds:List (DataW H)) (ps:List MemPlace),(∀ t∈ts,P.readableRec t=true∧t<P.types.size) →
  DataW.TrodAll enc P W 0 (fun _=>true) true ts vs ds ps→(∀ p∈ps,W.sameAt W' p)→(∀ p∈ps,sp p.block=true)→DataW.TrodAll enc P W' 0 sp true ts vs ds ps
 | [],vs,ds,ps,_,h,_,_=>by
  obtain ⟨rfl,rfl,rfl⟩:=trodAll_nil h;exact trodAll_mk0
 | t :: ts,vs,ds,ps,hr,h,hs,hb=>by
  obtain ⟨v,vs',d,ds',p,q,rfl,rfl,rfl,h0,h1⟩:=trodAll_cons h;have ht:=hr t List.mem_cons_self;exact trodAll_cons_mk (WideElems.Trod_stays hl ht.1 ht.2 h0 (fun x hx=>hs x (List.mem_append_left _ hx)) fun x hx=>hb x (List.mem_append_left _ hx))
   (Kz hl ts vs' ds' q (fun u hu=>hr u (List.mem_cons_of_mem _ hu)) h1 (fun x hx=>hs x (List.mem_append_right _ hx)) fun x hx=>hb x (List.mem_append_right _ hx))
theorem M7 (hl:laidOutB P=true) {f:Func} {s:ChangeSpec} {b:TypeId} {W W':World} {args:Array Value} {ds gs:List (DataW H)} {before:List MemPlace} (hv:s.vars=[])
  (hrd:∀ t∈f.params.toList,P.readableRec t=true∧t<P.types.size) (hrt:f.resultTypes = #[b]) (hb:P.underlying b=some .bool)
  (hW:DataW.Whole enc P f.params.toList s.vars false W args.toList ds gs before) (hfn:s.fn H ds = { results:=[.lit (.bool true)],args:=ds }) (hbel:Below W.heap.size W W') :
  s.post enc P f false true false false W args (.bool true) W':=by
 have hW':=hW;have hlt:∀ p∈before,p.block<W.heap.size:=fun p hp=>hW'.lt p hp
 obtain ⟨p,q,hA,hV,rfl,hfz,hnd⟩:=hW;rw [hv] at hV;obtain ⟨rfl,rfl⟩:=trodVars_none hV;simp only [List.append_nil] at hlt;refine ⟨ds,[],p ++ [],[],p,[],hW',?_,?_,?_,hbel.frame _,fun h=>by cases h⟩
 ·rw [List.append_nil,hfn,hrt];exact trodAll_mk1 (shut_bool hb _)
 ·rw [List.append_nil,hfn];exact Kz hl _ _ _ _ hrd hA (fun x hx=>hbel.same (hlt x hx)) fun x hx=>by simpa using hlt x hx
 ·rw [List.append_nil,hfn,hv];rfl
end
end Go.LX
namespace Go.LX
open Go Go.Proofs Go.RowKit Go.ChangeShapes Go.WideShapes Go.ChangeAt Go.Lib
def Ja (W:World) (b:Nat):Prop:=b<W.heap.size
theorem Jkw {α:Type} {Q:Nat→α→Prop}:∀ n,(∀ i,i<n→∃ x,Q i x)→∃ p:List α,p.length=n∧∀ i x,p[i]? = some x→Q i x
 | 0,_=>⟨[],rfl,fun i x h=>by simp at h⟩
 | n+1,h=>by
  obtain ⟨p,hp,hq⟩:=Jkw n fun i hi=>h i omg
  obtain ⟨x,hx⟩:=h n omg;refine ⟨p ++ [x],by simp [hp],fun i y hy=>?_⟩;rcases Nat.lt_trichotomy i n with hi | hi | hi
  ·rw [List.getElem?_append_left omg] at hy;exact hq i y hy
  ·subst hi;rw [List.getElem?_append_right omg,hp] at hy;simp at hy;subst hy;exact hx
  ·rw [List.getElem?_eq_none (by simp [hp];omega)] at hy;cases hy
theorem J8 {H:Type} {P:Program} {e:TypeId} {d:DataW H} {n:Nat}:∀ {l:List (DataW H)},d∈l→n∈d.weights P e→n∈DataW.weightsAll P e l
 | [],h,_=>by cases h
 | a :: l,h,hn=>by
  simp only [DataW.weightsAll,List.mem_append];rcases List.mem_cons.1 h with rfl | h
  ·exact .inl hn
  ·exact .inr (J8 h hn)
theorem Jka (b off k:Nat):(⟨b,off,none⟩:Addr).add k=⟨b,off+k,none⟩:=by
 unfold Addr.add;split
 ·rename_i h;subst h;rfl
 ·rfl
theorem J4o {α H:Type} {enc:TypeId×Value→H} {P:Program} {w:World} {t e:TypeId} {c:Nat} (vals:α→List Value) (cells:α→List PV) (Good:α→Prop)
  (ht:P.underlying t=some (.slice e)) (hc:P.cellsOf e=c) (hc0:0<c) (hb:0<P.bytesOf e) (hvl:∀ x,(vals x).length=c) (hcl:∀ x,(cells x).length=c) (hsc:∀ x,∀ p∈cells x,p.scalar=true)
  (hrep:∀ x j p,Good x→(cells x)[j]? = some p→PRep w (Ja w) ((vals x).getD j undef) p)
  (each:∀ (fuel:Nat) (cs:List Value) (y:DataW H×List MemPlace),DataW.trod enc P w 0 (fun _=>true) true fuel e cs=some y→(∀ n∈y.1.weights P e,n≤reachBytes)→∃ x,Good x∧cs=vals x)
  {cs:List Value} {fuel:Nat} {x:DataW H×List MemPlace} (h:DataW.trod enc P w 0 (fun _=>true) true fuel t cs=some x) (hz:∀ n∈x.1.weights P t,n≤reachBytes) :
  ∃ (v:Value) (p:List α),cs=[v]∧p.length≤140737488355328∧(∀ a∈p,Good a)∧PRep w (Ja w) v (.sl (p.map cells)):=by
 rcases Go.Deep.open_slice ht h with ⟨rfl,rfl⟩ | ⟨a,len,cap,m,n,D,Pl,rfl,hb0,hl,hm,hmm,rfl,hx⟩
 ·exact ⟨_,[],rfl,by simp,by simp,PRep.slNil⟩
 ·simp only [if_true] at hmm;subst hmm;by_cases h0:m=0
  ·subst h0;obtain rfl:len=0:=by omega
   exact ⟨_,[],rfl,by simp,by simp,PRep.slNil⟩
  obtain ⟨blk,off,spot⟩:=a;obtain ⟨cs0,hc1,_⟩:=hx 0 omg;have h00:=(World.cells?_some hc1).2.2 0 omg;have hl0:=(World.cells?_some hc1).2.1;have hcell:(w.cell? ⟨blk,off,spot⟩).isSome=true:=by
   have e1:((⟨blk,off,spot⟩:Addr).add (0 * P.cellsOf e)).add 0=⟨blk,off,spot⟩:=by rw [Nat.zero_mul];rfl
   rw [e1] at h00;rw [h00,List.getElem?_eq_getElem omg];rfl
  have hsp:spot=none:=by
   unfold World.cell? at hcell;cases spot with
   | none=>rfl
   | some s=>split at hcell <;> simp at hcell
  subst hsp;have hblk:blk<w.heap.size:=by
   rcases Nat.lt_or_ge blk w.heap.size with h | h
   ·exact h
   ·unfold World.cell? at hcell;simp only [Array.getElem?_eq_none h] at hcell;simp at hcell
  have hreach:reachBytes≤140737488355328:=by decide
  have hlen:len≤140737488355328:=by
   have h1:=hz ((len+(m - len)) * P.bytesOf e) (by simp [DataW.weights,ht]);have h2:len≤(len+(m - len)) * P.bytesOf e:=by
    have:(len+(m - len)) * 1≤(len+(m - len)) * P.bytesOf e:=Nat.mul_le_mul_left _ hb;omega
   omega
  obtain ⟨p,hp,hq⟩:=Jkw (Q:=fun i x=>Good x∧w.cells? 0 ((⟨blk,off,none⟩:Addr).add (i * c)) c=some (vals x)) len fun i hi=>by
   obtain ⟨cs',h1,h2⟩:=hx i omg;rw [hc] at h1;obtain ⟨x,hg,rfl⟩:=each n cs' _ h2 (fun k hk=>hz k (by
    simp only [DataW.weights,ht,List.mem_cons,List.mem_append];exact .inr (.inl (J8 (List.mem_map.2 ⟨i,List.mem_range.2 hi,rfl⟩) hk))))
   exact ⟨x,hg,h1⟩
  refine ⟨_,p,rfl,by omega,fun a ha=>?_,?_⟩
  ·obtain ⟨i,hi⟩:=List.getElem?_of_mem ha;exact (hq i a hi).1
  ·have e2:len=(p.map cells).length:=by simp [hp]
   have key:=PRep.sl (w:=w) (Im:=Ja w) blk off m c (p.map cells) (by rw [← e2];exact hl) hblk (fun i j=>match p[i]? with | some x=>(vals x).getD j undef | none=>undef)
    (fun r hr=>by obtain ⟨x,_,rfl⟩:=List.mem_map.1 hr;exact hcl x)
    (fun r hr=>by obtain ⟨x,_,rfl⟩:=List.mem_map.1 hr;exact hsc x)
    (fun i hi j hj=>by
     rw [← e2] at hi;obtain ⟨x,hx'⟩:∃ x,p[i]? = some x:=⟨_,List.getElem?_eq_getElem omg⟩
     have h1:=(World.cells?_some (hq i x hx').2).2.2 j hj;rw [Go.Deep.add_add,Jka,← Nat.add_assoc] at h1;rw [h1,hx'];have h3:j<(vals x).length:=by rw [hvl];exact hj
     simp [List.getD_eq_getElem?_getD,List.getElem?_eq_getElem h3])
    (fun i r j q hr hq'=>by
     rw [List.getElem?_map] at hr;cases hx':p[i]? with
     | none=>rw [hx'] at hr;cases hr
     | some x =>
      rw [hx'] at hr;obtain rfl:=Option.some.inj hr;exact hrep x j q (hq i x hx').1 hq')
   rw [← e2] at key;exact key
theorem Xx {α H:Type} {enc:TypeId×Value→H} {P:Program} {w:World} {t e:TypeId} {c:Nat} (vals:α→List Value) (cells:α→List PV) (Good:α→Prop)
  (ht:P.underlying t=some (.slice e)) (hc:P.cellsOf e=c) (hb:0<P.bytesOf e) (hvl:∀ x,(vals x).length=c) (hcl:∀ x,(cells x).length=c) (hsc:∀ x,∀ p∈cells x,p.scalar=true)
  (hrep:∀ (Im:Nat→Prop) x j p,(cells x)[j]? = some p→PRep w Im ((vals x).getD j undef) p)
  (each:∀ (fuel:Nat) (cs:List Value) (y:DataW H×List MemPlace),DataW.trod enc P w 0 (fun _=>true) true fuel e cs=some y→(∀ n∈y.1.weights P e,n≤reachBytes)→∃ x,Good x∧cs=vals x)
  {b:Nat} {v:Value} (hok:Cell.okWide P w .any b t v) {fuel:Nat} {x:DataW H×List MemPlace} (h:DataW.trod enc P w 0 (fun _=>true) true fuel t [v]=some x) (hz:∀ n∈x.1.weights P t,n≤reachBytes) (hc0:0<c:=by decide) :
  ∃ p:List α,p.length≤140737488355328∧(∀ a∈p,Good a)∧PRep w (Ja w) v (.sl (p.map cells)):=by
 obtain ⟨v',p,e1,h1,h2,h3⟩:=J4o vals cells Good ht hc hc0 hb hvl hcl hsc (fun x j p _ h=>hrep _ x j p h) each h hz;cases e1;exact ⟨p,h1,h2,h3⟩
theorem J67 {α H:Type} {enc:TypeId×Value→H} {P:Program} {w:World} {t2 t e:TypeId} {c:Nat} (vals:α→List Value) (cells:α→List PV) (Good:α→Prop)
  (ht2:P.underlying t2=some (.slice t)) (c1:P.cellsOf t=1) (b1:0<P.bytesOf t)
  (ht:P.underlying t=some (.slice e)) (hc:P.cellsOf e=c) (hc0:0<c) (hb:0<P.bytesOf e) (hvl:∀ x,(vals x).length=c) (hcl:∀ x,(cells x).length=c) (hsc:∀ x,∀ p∈cells x,p.scalar=true)
  (hrep:∀ x j p,Good x→(cells x)[j]? = some p→PRep w (Ja w) ((vals x).getD j undef) p)
  (each:∀ (fuel:Nat) (cs:List Value) (y:DataW H×List MemPlace),DataW.trod enc P w 0 (fun _=>true) true fuel e cs=some y→(∀ n∈y.1.weights P e,n≤reachBytes)→∃ x,Good x∧cs=vals x)
  {cs:List Value} {fuel:Nat} {x:DataW H×List MemPlace} (h:DataW.trod enc P w 0 (fun _=>true) true fuel t2 cs=some x) (hz:∀ n∈x.1.weights P t2,n≤reachBytes) :
  ∃ (v:Value) (ls:List (List α)),cs=[v]∧ls.length≤140737488355328∧(∀ l∈ls,l.length≤140737488355328∧∀ a∈l,Good a)∧PRep w (Ja w) v (.sl (ls.map fun l=>[.sl (l.map cells)])):=by
 obtain ⟨v,p,e1,h1,h2,h3⟩:=J4o (α:=Value×List α) (fun x=>[x.1]) (fun x=>[.sl (x.2.map cells)]) (fun x=>(x.2.length≤140737488355328∧∀ a∈x.2,Good a)∧PRep w (Ja w) x.1 (.sl (x.2.map cells)))
  ht2 c1 omg b1 (fun _=>rfl) (fun _=>rfl) (fun x p hp=>by simp at hp;subst hp;rfl)
  (fun x j p hg hp=>by
   cases j with
   | zero=>simp at hp;subst hp;exact hg.2
   | succ j=>simp at hp)
  (fun fuel cs y hy hzy=>by
   obtain ⟨v,q,rfl,g1,g2,g3⟩:=J4o vals cells Good ht hc hc0 hb hvl hcl hsc hrep each hy hzy;exact ⟨(v,q),⟨⟨g1,g2⟩,g3⟩,rfl⟩) h hz
 refine ⟨v,p.map (·.2),e1,by simpa using h1,fun l hl=>?_,?_⟩
 ·obtain ⟨x,hx,rfl⟩:=List.mem_map.1 hl;exact (h2 x hx).1
 ·rw [List.map_map];exact h3
end Go.LX
