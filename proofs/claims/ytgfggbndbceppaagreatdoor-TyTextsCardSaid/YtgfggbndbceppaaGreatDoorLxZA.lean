/- Types: how long their texts are. Plain. -/
import Derived.Test.YtgfggbndbceppaaGreatDoorLxZ
import Derived.Test.YtgfggbndbceppaaGreatDoorLxY
import Derived.Test.YtgfggbndbceppaaGreatDoorLxX
import Derived.Test.YtgfggbndbceppaaGreatDoorLxV
import Derived.Test.YtgfggbndbceppaaGreatDoorLxW
import Derived.Test.YtgfggbndbceppaaGreatDoorLxP
set_option linter.unusedSimpArgs false
set_option linter.unusedVariables false
set_option linter.unusedSectionVars false
set_option linter.unnecessarySimpa false
set_option maxRecDepth 100000
namespace Go.LX
open Go
def sumX (l:List TTx):Nat:=(l.map fun p=>p.2.length).sum
theorem J99 (k:Nat):(Juv k).length≤5:=by
 unfold Juv
 repeat' split
 all_goals simp
theorem Ka3 (m:Nat):(Jua m).length≤5:=by
 unfold Jua;rw [List.length_map];exact Nat.le_trans (List.length_filter_le _ _) sm
theorem J4u {l:List (List UInt8)} {k:Nat} (h:∀ x∈l,x.length≤k):sumT l≤k * l.length:=by
 induction l with
 | nil=>simp [sumT]
 | cons x l ih =>
  have h1:=ih fun y hy=>h y (List.mem_cons_of_mem _ hy)
  have h2:=h x List.mem_cons_self;simp only [sumT,List.map_cons,List.sum_cons,List.length_cons,Nat.mul_add] at h1 ⊢;omega
theorem Ken (m:Nat):(Jqq [124] (Jua m)).length≤30:=by
 have h1:=Jtv [124] (Jua m);have h2:=Ka3 m;have h3:sumT (Jua m)≤5 * (Jua m).length:=J4u fun x hx=>by
  unfold Jua at hx;obtain ⟨k,_,rfl⟩:=List.mem_map.1 hx;exact J99 k
 simp only [List.length_cons,List.length_nil] at h1;omega
theorem J3m {a:Int×Node} (h:a.2.s.length≤100∧-9223372036854775808≤a.2.e∧a.2.e≤9223372036854775807):(Jro a).length≤703:=by
 have h1:=J1q h.1 h.2.1 h.2.2;have h2:=Kds a.1;unfold Jro;simp only [List.length_append,List.length_cons,List.length_nil];omega
theorem Kbm {m:Nat} {l:List (Int×Node)} (h:∀ a∈l,a.2.s.length≤100∧-9223372036854775808≤a.2.e∧a.2.e≤9223372036854775807):(Js4 m l).length≤710 * l.length+40:=by
 have h1:=Ken m;have h2:=Jtv [44,32] (l.map Jro);have h3:sumT (l.map Jro)≤703 * (l.map Jro).length:=J4u fun x hx=>by
  obtain ⟨a,ha,rfl⟩:=List.mem_map.1 hx;exact J3m (h a ha)
 rw [List.length_map] at h2 h3;simp only [List.length_cons,List.length_nil] at h2;unfold Js4;split
 ·simp only [List.length_append,List.length_nil];omega
 ·simp only [List.length_append,List.length_cons,List.length_nil];omega
theorem J8b {p:TTx} (h:p.1.length≤100):(fieldTx p).length≤p.2.length+604:=by
 have:=J8k p.1;unfold fieldTx;simp only [List.length_append,List.length_cons,List.length_nil];omega
theorem J27 {l:List TTx} (h:∀ p∈l,p.1.length≤100):sumT (l.map fieldTx)≤sumX l+604 * l.length:=by
 induction l with
 | nil=>simp [sumT,sumX]
 | cons p l ih =>
  have h1:=ih fun y hy=>h y (List.mem_cons_of_mem _ hy)
  have h2:=J8b (h p List.mem_cons_self);simp only [sumT,sumX,List.map_cons,List.sum_cons,List.length_cons,Nat.mul_add] at h1 ⊢;omega
theorem J6g (a b:List (List UInt8)):sumT (a ++ b)=sumT a+sumT b:=by simp [sumT]
theorem Kay (n:Int):sumT (Jt0 n)≤1∧(Jt0 n).length≤1:=by
 unfold Jt0;split <;> simp [sumT]
theorem Kcn (k:Int) (s:List UInt8):(Jrn k s).length≤s.length+10:=by
 unfold Jrn
 repeat' split
 all_goals (simp only [List.length_append,List.length_cons,List.length_nil];omega)
theorem Kae {k:Int} {s:List UInt8} {n:Int} {l:List TTx} {ats:List (Int×Node)} (hs:s.length≤100) (hl:∀ p∈l,p.1.length≤100) (ha:∀ a∈ats,a.2.s.length≤100∧-9223372036854775808≤a.2.e∧a.2.e≤9223372036854775807):(Jse k s n l ats).length≤sumX l+610 * l.length+710 * ats.length+200:=by
 unfold Jse;refine Kce ?_ ?_
 ·exact Nat.le_trans (by decide:_≤20) omg
 refine Kce ?_ ?_
 ·have:=Kbm (m:=n.toNat) ha;omega
 refine Kce ?_ ?_
 ·have h1:=Jtv [44,32] (l.map fieldTx ++ Jt0 n);have h2:=J27 hl;have h3:=Kay n;rw [J6g,List.length_append,List.length_map] at h1;simp only [List.length_append,List.length_cons,List.length_nil] at h1 ⊢;omega
 ·have h1:=Jtv [44,32] (l.map (·.2));have h2:sumT (l.map (·.2))=sumX l:=by unfold sumT sumX;rw [List.map_map];rfl
  have h3:=Kcn k s;rw [List.length_map] at h1;simp only [List.length_append,List.length_cons,List.length_nil] at h1 ⊢;omega
theorem Jwm:∀ {f:RF},Jsz f→∀ a∈Jqf f.list,a.2.s.length≤100∧-9223372036854775808≤a.2.e∧a.2.e≤9223372036854775807
 | .nil,_,a,h=>by cases h
 | .cons nm (.mk k s n c kids) r,hf,a,h=>by
  rw [Jsz,fitQ] at hf;obtain ⟨_,⟨⟨_,h2,_,_,h5,h6⟩,_⟩,h7⟩:=hf;rcases List.mem_cons.1 h with rfl | h
  ·exact ⟨h2,h5,h6⟩
  ·exact Jwm h7 a h
mutual
theorem Ju3:∀ (t:RT),fitQ t→∀ nm,(Jrb t).length+1320≤2000 * (t.enc nm).length
 | .mk k s n c kids,h,nm=>by
  rw [fitQ] at h;obtain ⟨h1,h2⟩:=h;have h3:=Ju8 kids h2;have h4:=Kae (k:=k) (n:=n) (l:=Jqi kids) (ats:=Jqf kids.list) h1.1 h3.1 (Jwm h2);have h5:=Jvn kids;have h6:=Jqs kids;have h7:(Jqf kids.list).length=kids.len:=by unfold Jqf;rw [List.length_map,Jqo]
  rw [Jth,Jqh,List.length_cons];omega
theorem Ju8:∀ (f:RF),Jsz f→(∀ p∈Jqi f,p.1.length≤100)∧sumX (Jqi f)+1320 * f.len≤2000 * f.enc.length
 | .nil,_=>by simp [Jqi,sumX,RF.len]
 | .cons nm t r,h=>by
  rw [Jsz] at h;have h1:=Ju3 t h.2.1 nm;obtain ⟨h2,h3⟩:=Ju8 r h.2.2;rw [Jqi];refine ⟨List.forall_mem_cons.2 ⟨h.1,h2⟩,?_⟩;rw [Jqe,List.length_append];simp only [sumX,List.map_cons,List.sum_cons,Jsd] at h3 ⊢;omega
end
end Go.LX
set_option maxHeartbeats 1000000
namespace Go.LX
open Go Go.RowKit Go.Proofs
attribute [local irreducible] Al SWP Bi
attribute [go_sem] Tryz.ntmps35 Tryz.results35 Tryz.ntmps41 Tryz.results41 Tryz.ntmps47 Tryz.results47 Tryz.ntmps81 Tryz.results81
theorem J38 (v u:List YRow) (hv:v.length≤1000000) (hu:u.length≤1000000):Det cx 41 [.p (.sl (rowL v)),.p (.sl (rowL u))] [] (.p (.bool (decide (v=u)))) []:=by
 by_cases hl:v.length=u.length
 ·have c0:((v.length:Int)=(u.length:Int))=True:=eq_true omg;(refine bgo Tryz.func41 ?_;simp only [go_sem,simprocAttr,Jqc,c0]);refine SWP.loop (fun i:Nat=>⟨Ba 26 [(0,.p (.sl (rowL v))),(1,.p (.sl (rowL u))),(5,.p (.int .i64 i))],[]⟩) (fun i=>i≤v.length∧v.take i=u.take i) (fun i=>v.length - i) 0 Jqb ⟨Nat.zero_le _,rfl⟩ ?_;rintro i ⟨h1,h3⟩;by_cases hi:¬ i<v.length
  ·have c1:((i:Int)<(v.length:Int))=False:=eq_false omg;have hgx:=c1;have hgy:=c1;(refine lws ?_;simp only [go_sem,simprocAttr,Jqc,c1]);rw [List.take_of_length_le omg,List.take_of_length_le omg] at h3;exact (decide_eq_true h3).symm
  ·have hi:=Decidable.not_not.1 hi;have c1:((i:Int)<(v.length:Int))=True:=eq_true omg;obtain ⟨x,hx⟩:∃ x,v[i]? = some x:=⟨_,List.getElem?_eq_getElem hi⟩
   obtain ⟨y,hy⟩:∃ y,u[i]? = some y:=⟨_,List.getElem?_eq_getElem omg⟩
   have hgx:=Jxn hx;have hgy:=Jxn hy;have w1:=wi1 (i:=i) omg;(refine lws ?_;simp only [go_sem,simprocAttr,Jqc,c1]);(repeat' (first | (apply iteI <;> intro h)|((refine Jqp ?_);simp only [go_sem,simprocAttr,rowB,hgx,hgy,w1]) | fail))
   ·have hxy:=(show ¬ x=y by assumption)
    refine (decide_eq_false fun e=>hxy ?_).symm;subst e;rw [hx] at hy;exact Option.some.inj hy
   ·have hxy:=Decidable.not_not.1 (show ¬ ¬ x=y by assumption);subst hxy;refine ⟨i+1,⟨by omega,?_⟩,by omega,Jqb⟩;rw [List.take_add_one,List.take_add_one,h3,hx,hy]
 ·have c0:((v.length:Int)=(u.length:Int))=False:=eq_false omg;have c1:=c0;have hgx:=c0;have hgy:=c0;(refine bgo Tryz.func41 ?_;simp only [go_sem,simprocAttr,Jqc,c0]);exact (decide_eq_false fun e=>hl (by rw [e])).symm
def Jri (m k:Nat):List UInt8:=Jqq [124] (((List.range k).filter fun j:Nat=>Jr0 m j).map Juv)
theorem Jtm:∀ m<32,∀ k<6,(Jri m k).length≤30:=by decide +kernel
def Jrc (l:List (Int×Node)) (i:Nat):List UInt8:=if i=0 then [] else 40 :: Jqq [44,32] ((l.take i).map Jro)
theorem Jyr (m:Nat) (l:List (Int×Node)):Js4 m l=Jri m 5 ++ Jrc l l.length ++ (if l=[] then [] else [41]):=by
 unfold Js4 Jrc Jri Jua;by_cases h:l=[]
 ·subst h;simp
 ·have:l.length≠0:=fun e=>h (List.eq_nil_of_length_eq_zero e)
  rw [if_neg h,if_neg h,if_neg this,List.take_length];simp
theorem J1a {l:List (Int×Node)} (h:∀ a∈l,a.2.s.length≤100∧-9223372036854775808≤a.2.e∧a.2.e≤9223372036854775807) (i:Nat):(Jrc l i).length≤710 * l.length+10:=by
 unfold Jrc;split
 ·simp
 ·have h2:=Jtv [44,32] ((l.take i).map Jro);have h3:sumT ((l.take i).map Jro)≤703 * ((l.take i).map Jro).length:=J4u fun x hx=>by
   obtain ⟨a,ha,rfl⟩:=List.mem_map.1 hx;exact J3m (h a (List.mem_of_mem_take ha))
  rw [List.length_map,List.length_take] at h2 h3;simp only [List.length_cons,List.length_nil] at h2 ⊢;omega
attribute [go_sem] Tryz.ntmps37 Tryz.results37 Tryz.ntmps82 Tryz.results82
theorem Jw4 (nm:List UInt8) (k:Int) (hk:k≠2) (s:List UInt8) (g:Int) (c:Node) (kids:RF):Det cx 46 [.p (.sl (rowL ((RT.mk k s g c kids).enc nm)))] [] (.p (.sl [])) []:=by
 have hg0:(rowL ((RT.mk k s g c kids).enc nm))[0]? = some [.int .i64 k,.int .i64 kids.len,.str nm,.str s,.int .i64 g,.int .i64 c.kind,.int .i64 c.many,.str c.name,.str c.s,.bool c.neg,.int .i64 c.e]:=by rw [Jqh];rfl
 have hrl:(rowL ((RT.mk k s g c kids).enc nm)).length=kids.enc.length+1:=by rw [Jqc,Jqh];rfl
 generalize rowL ((RT.mk k s g c kids).enc nm)=rows at *
 have e2:=eq_false hk;(refine bgo Tryz.func46 ?_;simp only [go_sem,simprocAttr]);refine SWP.loop (fun _:Unit=>⟨Ba 34 [(0,.p (.sl rows)),(3,.own 6 0 0),(5,.p (.int .i64 0))],[(6,.row 9 1 [])]⟩) (fun _=>True) (fun _=>0) () Jqb trivial ?_;intro _ _;(refine lws ?_;simp only [go_sem,simprocAttr,hg0,e2]);(repeat' (first | (apply iteI <;> intro h)|(exact True.intro)))
def Jsn (k:Int) (p:TTx):List UInt8:=if k=2 then fieldTx p else p.2
def Jsg (k:Int) (l:List TTx):List UInt8:=Jqq [44,32] (l.map (Jsn k))
theorem J1i {k:Int} {l:List TTx} (h:∀ p∈l,p.1.length≤100):sumT (l.map (Jsn k))≤sumX l+604 * l.length:=by
 by_cases hk:k=2
 ·rw [show l.map (Jsn k)=l.map fieldTx from List.map_congr_left fun p _=>if_pos hk];exact J27 h
 ·rw [show l.map (Jsn k)=l.map (·.2) from List.map_congr_left fun p _=>if_neg hk];have h2:sumT (l.map (·.2))=sumX l:=by unfold sumT sumX;rw [List.map_map];rfl
  omega
theorem Kcb {f:RF} (h:(f.len:Int)=0):f=.nil:=by
 match f,h with
 | .nil,_=>rfl
 | .cons _ _ r,h=>simp only [RF.len] at h;omega
theorem J3l {kids:RF} (h1:okRF kids) (h2:∀ p∈kids.list,Jvl 1 p):Jwg kids.list∧∀ a∈Jqf kids.list,Jrf a.1 a.2:=by
 have key:∀ p∈kids.list,p.2.kids=.nil∧Jrf p.2.n p.2.c:=by
  intro p hp;obtain ⟨g1,g2,_⟩:=h2 p hp;have g3:=Jst.1 h1 p hp;obtain ⟨nm,⟨k,s,n,c,ks⟩⟩:=p;have g4:k=9:=g1.2 rfl;subst g4;have g6:=(Jr5.1 g3).1;unfold Jqv at g6;rw [if_neg omg,if_neg omg,if_pos rfl] at g6;exact ⟨Kcb g6.1,g6.2.2⟩
 refine ⟨fun p hp=>(key p hp).1,fun a ha=>?_⟩;obtain ⟨p,hp,rfl⟩:=List.mem_map.1 ha;exact (key p hp).2
attribute [go_sem] Tryz.ntmps80 Tryz.results80
@[go_sem] theorem f_ba5 {parts:List (Nat×L)} {K:L→Prop}:Vf Tryz.prog 128 parts K=(Tryz.prog.cellsOf 9=1∧5=parts.length∧zok (Bu Tryz.prog 128) 5∧Bq (Jvu 0 parts) (kagg K)):=J01 f_u128
def Jre (m k:Nat):List (List UInt8):=((List.range k).filter fun j:Nat=>Jr0 m j).map Juv
theorem J4x (m k:Nat):Jre m (k+1)=Jre m k ++ (if Jr0 m k=true then [Juv k] else []):=by
 unfold Jre;rw [List.range_succ,List.filter_append,List.map_append];congr 1;by_cases h:Jr0 m k=true
 ·rw [if_pos h];simp [h]
 ·rw [if_neg h];simp [h]
theorem Jyp (m k:Nat):(Jre m k).length≤k:=by
 unfold Jre;rw [List.length_map];exact Nat.le_trans (List.length_filter_le _ _) sm
theorem J0m (m:Nat):Jqq [124] (Jre m 5)=Jri m 5:=rfl
theorem Kci:∀ (m:Fin 32) (k:Fin 5),decide (IntKind.i64.wrap ((BitVec.ofInt (B0 .i64) (((m.val:Int)).fdiv (2 ^ min k.val (B0 .i64))) &&& BitVec.ofInt (B0 .i64) 1).toNat:Int)=1)=Jr0 m.val k.val:=by decide +kernel
theorem Kd9 {m k:Nat} (hm':m<32) (k5:k<5):(IntKind.i64.wrap ((BitVec.ofInt (B0 .i64) ((m:Int).fdiv (2 ^ min k (B0 .i64))) &&& BitVec.ofInt (B0 .i64) 1).toNat:Int)=1)=(Jr0 m k=true):=by
 have:=Kci ⟨m,by omega⟩ ⟨k,by omega⟩;simp only at this;rw [← this,decide_eq_true_eq]
theorem Ke0:∀ k<5,([.str [110,117,108,108],.str [102,97,108,115,101],.str [116,114,117,101],.str [110,117,109],.str [115,116,114]]:List PV)[k]? = some (.str (Juv k)):=by
 intro k hk;rcases (by omega:k=0∨k=1∨k=2∨k=3∨k=4) with rfl | rfl | rfl | rfl | rfl <;> rfl
theorem Jup (l:List (List UInt8)) (x:List UInt8):Jq1 (l ++ [x])=Jq1 l ++ [[.str x]]:=by simp [Jq1]
theorem Kd5 (nm:List UInt8) (s:List UInt8) (g:Int) (c:Node) (kids:RF) (hv:kids.enc.length≤10000) (hlf:Jwg kids.list) (g1:1≤g) (g2:g≤31) (ha:∀ a∈Jqf kids.list,Jrf a.1 a.2) (hf:Jsz kids):Det cx 80 [.p (.sl (rowL ((RT.mk 1 s g c kids).enc nm)))] [] (.p (.str (Js4 g.toNat (Jqf kids.list)))) []:=by
 have hA:=Jxm nm s g c kids omg hlf;have hal:(Jqf kids.list).length=kids.len:=by unfold Jqf;rw [List.length_map,Jqo]
 have hle:=Jqs kids;have hfa:=Jwm hf;have hg0:(rowL ((RT.mk 1 s g c kids).enc nm))[0]? = some [.int .i64 1,.int .i64 kids.len,.str nm,.str s,.int .i64 g,.int .i64 c.kind,.int .i64 c.many,.str c.name,.str c.s,.bool c.neg,.int .i64 c.e]:=by rw [Jqh];rfl
 generalize rowL ((RT.mk 1 s g c kids).enc nm)=rows at *
 obtain ⟨m,rfl⟩:∃ m:Nat,g=m:=⟨g.toNat,by omega⟩
 rw [Int.toNat_natCast];have hm32:m<32:=by omega
 generalize hL:Jqf kids.list=l at *
 rw [Jyr,← J0m];(refine bgo Tryz.func80 ?_;simp only [go_sem,simprocAttr]);refine Jqn (Js0 _ (i:=3) (d:=27) 9 1 (.inl de) rfl) ?_;simp only [St.nilOwn,St.nilReg,go_sem,simprocAttr];refine Jzx (fun k:Nat=>⟨Ba 63 [(0,.p (.sl rows)),(3,.own 27 0 (Jre m k).length),(11,.p (.agg [.str [110,117,108,108],.str [102,97,108,115,101],.str [116,114,117,101],.str [110,117,109],.str [115,116,114]])),(12,.p (.int .i64 k))],[(27,.row 9 1 (Jq1 (Jre m k)))]⟩) (fun k=>k≤5) (fun k=>5 - k) 0 0 (fun _:Nat=>⟨Ba 63 [(0,.p (.sl rows)),(3,.own 27 0 (Jre m 5).length)],[(27,.row 9 1 (Jq1 (Jre m 5)))]⟩) (fun _=>True) (by rw [show Jre m 0=[] from rfl,show Jq1 []=[] from rfl];exact Jqb) (Nat.zero_le _) ?_ ?_
 ·intro k hk;have hwl:=Jyp m k;have hpl:(Jq1 (Jre m k)).length=(Jre m k).length:=Js5 _;have hws:=J4x m k;by_cases hlt:k<5
  ·have c1:((k:Int)<5)=True:=eq_true omg;have hwa:=Ke0 k hlt;have hsh:=Kd9 hm32 hlt;have w1:=wj1 (i:=k) omg;cases hb:Jr0 m k with
   | false =>
    rw [hb,if_neg sm,List.append_nil] at hws;have hsh:=hsh.trans (show (Jr0 m k=true)=False by rw [hb];simp);(refine lws ?_;simp only [go_sem,simprocAttr,c1,hg0,hwa,hsh,w1]);exact ⟨k+1,by omega,by omega,by rw [hws];exact Jqb⟩
   | true =>
    rw [hb,if_pos rfl] at hws;have hsh:=hsh.trans (show (Jr0 m k=true)=True by rw [hb];simp);have hn1:Jq1 (Jre m (k+1))=Jq1 (Jre m k) ++ [[.str (Juv k)]]:=by rw [hws,Jup]
    have hl1:(Jre m (k+1)).length=(Jre m k).length+1:=by rw [hws];simp
    (refine lws ?_;simp only [go_sem,simprocAttr,c1,hg0,hwa,hsh,w1,hpl]);refine ⟨by simp,by omega,by omega,k+1,by omega,by omega,?_⟩;rw [hn1,hl1];exact Jqb
  ·obtain rfl:k=5:=by omega
   (refine lws ?_;simp only [go_sem,simprocAttr]);exact ⟨0,Jqb⟩
 ·intro _ _;have hwl:=Jyp m 5;have hml:=Jtm m hm32 5 omg;rw [← J0m] at hml;have hJ:=J37 (Jre m 5) [124] omg omg;have hpl:(Jq1 (Jre m 5)).length=(Jre m 5).length:=Js5 _;have hle1:((Jre m 5).length≤(Jre m 5).length)=True:=eq_true (Nat.le_refl _);have htk1:List.take (Jre m 5).length (Jq1 (Jre m 5))=Jq1 (Jre m 5):=List.take_of_length_le omg;generalize Jqq [124] (Jre m 5)=z at *
  generalize Jre m 5=ws at *
  simp only [go_sem,simprocAttr,hpl,hle1,htk1];(repeat' (first | ((first | (refine Jqa (hJ) ?_)|(refine Jqa (hA) ?_));simp only [go_sem,simprocAttr]) | fail));refine Jqn (Js0 _ (i:=7) (d:=51) 9 1 (.inl de) rfl) ?_;simp only [St.nilOwn,St.nilReg,go_sem,simprocAttr,hpl,hle1,htk1,if_true];refine SWP.loop (fun i:Nat=>⟨Ba 63 [(6,.p (.str z)),(7,.own 51 0 i),(32,.p (.sl (Jq9 l))),(33,.p (.int .i64 l.length)),(34,.p (.int .i64 i))],[(51,.row 9 1 (Jq1 ((l.take i).map Jro)))]⟩) (fun i=>i≤l.length) (fun i=>l.length - i) 0 (by rw [List.take_zero,List.map_nil,show Jq1 []=[] from rfl];exact Jqb) (Nat.zero_le _) ?_;intro i hi;have hpl2:(Jq1 ((l.take i).map Jro)).length=i:=by rw [Js5,List.length_map,List.length_take];omega
  by_cases hlt:i<l.length
  ·have c1:((i:Int)<(l.length:Int))=True:=eq_true omg;obtain ⟨⟨n,d⟩,hq⟩:∃ a,l[i]? = some a:=⟨_,List.getElem?_eq_getElem hlt⟩
   have hg:=Jt9 hq;obtain ⟨n0,n5,hpd⟩:=ha _ (List.mem_of_getElem? hq);obtain ⟨fd,fd1,fd2⟩:=hfa _ (List.mem_of_getElem? hq);simp only at hg n0 n5 hpd fd fd1 fd2;have hX:=J7i d hpd omg;have hxl:=J1q fd fd1 fd2;have w1:=wj1 (i:=i) omg;have hat:Jro (n,d)=Jsf n ++ [32] ++ Jrz d:=rfl;have hn1:Jq1 ((l.take (i+1)).map Jro)=Jq1 ((l.take i).map Jro) ++ [[.str (Jsf n ++ [32] ++ Jrz d)]]:=by
    rw [List.take_add_one,hq,Option.toList_some,List.map_append,List.map_cons,List.map_nil,Jup,hat]
   generalize Jrz d=x at *
   rcases (by omega:n=0∨n=1∨n=2∨n=3∨n=4∨n=5) with rfl | rfl | rfl | rfl | rfl | rfl <;> (
    simp only [Jsf,Int.reduceEq,if_true,if_false,reduceIte] at hn1;(refine lws ?_;simp only [go_sem,simprocAttr,c1,hg]);(repeat' (first | (refine Jqd ?_)|((refine Jqa (hX) ?_);simp only [go_sem,simprocAttr,w1,hpl2]) | fail));refine ⟨by simp,by omega,by omega,i+1,by omega,by omega,?_⟩;rw [hn1];exact Jqb)
  ·obtain rfl:i=l.length:=by omega
   have c1:((l.length:Int)<(l.length:Int))=False:=eq_false omg;rw [List.take_length] at *
   by_cases h0:l=[]
   ·have c0:((0:Int)<(l.length:Int))=False:=eq_false (by rw [h0];simp);rw [if_pos h0,show Jrc l l.length=[] by rw [h0];rfl,List.append_nil,List.append_nil];(refine lws ?_;simp only [go_sem,simprocAttr,c1,c0])
    skip
   ·have hpos:=List.length_pos_iff.2 h0;have c0:((0:Int)<(l.length:Int))=True:=eq_true omg;have hpre:=J1a hfa l.length;have hsp:Jrc l l.length=40 :: Jqq [44,32] (l.map Jro):=by
     unfold Jrc;rw [if_neg omg,List.take_length]
    rw [hsp] at hpre ⊢;rw [List.length_cons] at hpre;have hJ2:=J37 (l.map Jro) [44,32] (by rw [List.length_map];omega) omg;have hle2:(l.length≤l.length)=True:=eq_true (Nat.le_refl _);have htk2:List.take l.length (Jq1 (l.map Jro))=Jq1 (l.map Jro):=List.take_of_length_le omg;rw [if_neg h0];generalize Jqq [44,32] (l.map Jro)=y at *
    (refine lws ?_;simp only [go_sem,simprocAttr,c1,c0,hpl2,hle2,htk2]);(repeat' (first | (refine And.intro (by simp only [List.length_append,List.length_cons,List.length_nil];omega) ?_)|(refine Jqd ?_)|((refine Jqa (hJ2) ?_);simp only [go_sem,simprocAttr]) | fail))
    all_goals (first | (simp only [List.length_append,List.length_cons,List.length_nil];omega) | simp)
attribute [go_sem] Tryz.ntmps36 Tryz.results36
def Jzt (n:Nat):Prop:=∀ (t:RT) (nm:List UInt8),okR t→t.kind≠9→fitQ t→(t.enc nm).length≤n→Det cx 36 [.p (.sl (rowL (t.enc nm)))] [] (.p (.str (Jrb t))) []
def Jrt (k:Int) (l:List TTx):List (List PV):=Jq1 (l.map (Jsn k))
theorem Jwf (k:Int) (l:List TTx):(Jrt k l).length=l.length:=by simp [Jrt]
theorem J4f {k:Int} {l:List TTx} {i:Nat} {p:TTx} (h:l[i]? = some p):Jrt k (l.take (i+1))=Jrt k (l.take i) ++ [[.str (Jsn k p)]]:=by
 unfold Jrt;rw [List.take_add_one,h,Option.toList_some,List.map_append,List.map_cons,List.map_nil,Jup]
def Jr1 (k:Int) (s x:List UInt8):List UInt8:=if k=0 then [97,110,121] else if k=2 then 123 :: (x ++ [125]) else Jrn k s ++ x ++ [Jrk k]
def Jsy (k:Int) (n:Int) (l:List TTx):List (List UInt8):=l.map (Jsn k) ++ (if k=2∧n=1 then [[63]] else [])
theorem J2b {k:Int} (hk1:k≠1) (s:List UInt8) (n:Int) (l:List TTx) (ats:List (Int×Node)):Jse k s n l ats=Jr1 k s (Jqq [44,32] (Jsy k n l)):=by
 unfold Jse Jr1 Jsy;by_cases h0:k=0
 ·rw [if_pos h0,if_pos h0]
 rw [if_neg h0,if_neg hk1,if_neg h0];by_cases h2:k=2
 ·rw [if_pos h2,if_pos h2,show l.map (Jsn k)=l.map fieldTx from List.map_congr_left fun p _=>if_pos h2];unfold Jt0;by_cases hn:n=1
  ·rw [if_pos hn,if_pos ⟨h2,hn⟩]
  ·rw [if_neg hn,if_neg fun h=>hn h.2]
 ·rw [if_neg h2,if_neg h2,show l.map (Jsn k)=l.map (·.2) from List.map_congr_left fun p _=>if_neg h2,if_neg fun h=>h2 h.1,List.append_nil]
theorem Ka4 {k n:Int} {l:List TTx} (h:∀ p∈l,p.1.length≤100):(Jqq [44,32] (Jsy k n l)).length≤sumX l+606 * l.length+10:=by
 have h1:=Jtv [44,32] (Jsy k n l);have h2:=J1i (k:=k) h;have h3:sumT (Jsy k n l)≤sumT (l.map (Jsn k))+1∧(Jsy k n l).length≤l.length+1:=by
  unfold Jsy;rw [J6g,List.length_append,List.length_map];split <;> simp [sumT]
 simp only [List.length_cons,List.length_nil] at h1;omega
theorem Kd0 (n:Nat) (hn2:n<10000) (H:Jzt n):Jzt (n+1):=by
 intro t nm ho h9 hf hn;obtain ⟨k,s,g,c,kids⟩:=t;have hkn:kids.enc.length≤n:=by rw [Jqh,List.length_cons] at hn;omega
 obtain ⟨h1,h2,_,h3⟩:=Jr5.1 ho;have hf':=hf;rw [fitQ] at hf';obtain ⟨⟨f1,_⟩,f2⟩:=hf';simp only [RT.kind] at h9;have hq:=Ju8 kids f2;have hql:=Jvn kids;have hle:=Jqs kids;have hll:=Jqo kids;have hE:=Jzl ((RT.mk k s g c kids).enc nm);have hIt:=Jzk nm k s g c kids omg;have hg0:(rowL ((RT.mk k s g c kids).enc nm))[0]? = some [.int .i64 k,.int .i64 kids.len,.str nm,.str s,.int .i64 g,.int .i64 c.kind,.int .i64 c.many,.str c.name,.str c.s,.bool c.neg,.int .i64 c.e]:=by rw [Jqh];rfl
 rw [Jth];by_cases k1:k=1
 ·subst k1;obtain ⟨a1,a2⟩:=J3l h3 h2.1;unfold Jqv at h1;rw [if_neg omg,if_pos rfl] at h1;have hS:=Kd5 nm s g c kids omg a1 h1.2.1 h1.2.2.1 a2 f2;have hJ:=J37 [] [44,32] sm (by simp [Jqq]);rw [show Jqq [44,32] ([]:List (List UInt8))=[] from rfl,show Jq1 []=[] from rfl] at hJ;rw [if_pos rfl] at hIt;generalize rowL ((RT.mk 1 s g c kids).enc nm)=rows at *
  rw [show Jse 1 s g (Jqi kids) (Jqf kids.list)=Js4 g.toNat (Jqf kids.list) by unfold Jse;rw [if_neg omg,if_pos rfl]];generalize Js4 g.toNat (Jqf kids.list)=res at *
  (refine bgo Tryz.func36 ?_;simp only [go_sem,simprocAttr]);(repeat' (first | ((refine Jqa (hE) ?_);simp only [go_sem,simprocAttr]) | fail));(refine SWP.range ([]) 110 [] sm _ _ _ _ _ (fun i R=>R=[(1000,.var 59 [.p .snil]),(1001,.var 40 [.p (.sl rows)])]) (fun _ _=>False) (by rfl) (by rfl) (by rfl) (hIt) (by simp only [go_sem,simprocAttr] <;> rfl) (by first | rfl | simp [Cg]) sm ?hps (by simp only [go_sem,simprocAttr] <;> rfl) (by simp only [go_sem,simprocAttr] <;> rfl) (by simp only [go_sem,simprocAttr] <;> rfl) ?h0 ?hkI ?hkS ?hSn ?round ?done ?stop)
  case hps=>exact fun x hx=>by cases hx
  case h0=>rfl
  case hkI=>rintro i R rfl;simp [Hg,findKey]
  case hkS=>exact fun _ _ h=>h.elim
  case hSn=>exact fun _ h=>h
  case stop=>exact fun _ _ h=>h.elim
  case round=>rintro i x R l hx rfl;simp at hx
  case done =>
   rintro R rfl;simp only [go_sem,simprocAttr];refine ⟨⟨Ba 110 [(1,.ptr 1 0 0),(3,.ptr 3 0 0)],[(3,.var 59 [.p (.sl [])]),(1,.var 40 [.p (.sl rows)])]⟩,Jqb,?_⟩;simp only [go_sem,simprocAttr,hg0];(repeat' (first | ((first | (refine Jqa (hJ) ?_)|(refine Jqa (hS) ?_));simp only [go_sem,simprocAttr,hg0]) | fail))
 rw [if_neg k1] at hIt;have hd1:((RT.mk k s g c kids).enc nm).drop 1=kids.enc:=by rw [Jqh];rfl
 have h9k:∀ p∈kids.list,p.2.kind≠9:=fun p hp h=>k1 ((h2.1 p hp).1.1 h)
 rw [J2b k1];have hil:=Ka4 (k:=k) (n:=g) hq.1;generalize hvv:(RT.mk k s g c kids).enc nm=v at *
 (refine bgo Tryz.func36 ?_;simp only [go_sem,simprocAttr]);(repeat' (first | ((refine Jqa (hE) ?_);simp only [go_sem,simprocAttr]) | fail));(refine SWP.range (Jsc 1 kids) 110 [(37,900)] sm _ _ _ _ _ (fun i R=>R=if i=0 then [(1000,.var 59 [.p .snil]),(1001,.var 40 [.p (.sl (rowL v))])] else [(900,.row 9 1 (Jrt k ((Jqi kids).take i))),(1000,.var 59 [.own 900 0 i]),(1001,.var 40 [.p (.sl (rowL v))])]) (fun _ _=>False) (by rfl) (by rfl) (by rfl) (hIt) (by simp only [go_sem,simprocAttr] <;> rfl) (by first | rfl | simp [Cg]) sm ?hps (by simp only [go_sem,simprocAttr] <;> rfl) (by simp only [go_sem,simprocAttr] <;> rfl) (by simp only [go_sem,simprocAttr] <;> rfl) ?h0 ?hkI ?hkS ?hSn ?round ?done ?stop)
 case hps=>exact fun x hx=>Jvv hx
 case h0=>rfl
 case hkI=>rintro i R rfl;split <;> simp [Hg,findKey]
 case hkS=>exact fun _ _ h=>h.elim
 case hSn=>exact fun _ h=>h
 case stop=>exact fun _ _ h=>h.elim
 case round =>
  rintro i x R l hx rfl;obtain ⟨p,b,hp,hd,rfl⟩:=Jwh hx;have hpm:=List.mem_of_getElem? hp;have hgq:=Jw7 hp;have hilt:=(List.getElem?_eq_some_iff.1 hp).1;obtain ⟨f3,f4⟩:=Jwo f2 hpm;have hdv:v.drop (1+offR kids.list i)=p.2.enc p.1 ++ b:=by rw [← List.drop_drop,hd1,hd]
  have hel:=Jvg hpm;have hT:=H p.2 p.1 (Jst.1 h3 p hpm) (h9k p hpm) f4 omg;have hsl2:((rowL v).drop (1+offR kids.list i)).take (1+offR kids.list i+(p.2.enc p.1).length - (1+offR kids.list i))=rowL (p.2.enc p.1):=by rw [Nat.add_sub_cancel_left,Ju4 hdv]
  have hgx:∃ (k' m':Int) (s':List UInt8) (n':Int) (c':Node),(rowL v)[1+offR kids.list i]? = some [.int .i64 k',.int .i64 m',.str p.1,.str s',.int .i64 n',.int .i64 c'.kind,.int .i64 c'.many,.str c'.name,.str c'.s,.bool c'.neg,.int .i64 c'.e]:=by
   obtain ⟨nm',⟨k',s',n',c',kids'⟩⟩:=p;rw [Jqh,List.cons_append] at hdv;have:=Jru hdv;rw [Jq0] at this;exact ⟨_,_,_,_,_,this⟩
  obtain ⟨k',m',s',n',c',hgx⟩:=hgx;have hlen:=congrArg List.length hdv;rw [List.length_append,List.length_drop] at hlen;have hpp:=Jrs p.2 p.1;have htk:=J4f (k:=k) hgq;have hz:=Ju3 p.2 f4 p.1;have hz2:(Jrb p.2).length≤21000000:=by omega
  have b3:=J8k p.1;by_cases hk2:k=2
  ·have e2:=eq_true hk2;have ho1:Jsn k (p.1,Jrb p.2)=nmT p.1 ++ [58,32] ++ Jrb p.2:=if_pos hk2;rw [ho1] at htk;have hTx:Det cx 53 [.p (.sl [[.bool false,.str p.1,.int .i64 0]])] [] (.p (.str (46 :: nmT p.1))) []:=by
    rw [← J8g];exact Ui [⟨false,p.1,0⟩] sm (by intro x hx;simp only [List.mem_singleton] at hx;subst hx;unfold Bc;rw [if_neg sm];exact ⟨rfl,(h2.1 p hpm).2.2 hk2⟩) (by intro x hx;simp only [List.mem_singleton] at hx;subst hx;show p.1.length≤1000;omega)
   generalize nmT p.1=y at *
   generalize Jrb p.2=z at *
   by_cases h0:i=0
   ·subst h0;rw [if_pos rfl];simp only [go_sem,simprocAttr];(refine lws ?_;simp only [go_sem,simprocAttr,hsl2,Jqc]);(repeat' (first | (refine And.intro (by simp only [List.length_append,List.length_cons,List.length_nil];omega) ?_)|(refine And.intro (Jrx _) ?_)|(refine Jqd ?_)|((first | (refine Jqa (hT) ?_)|(refine Jqa (hTx) ?_));simp only [go_sem,simprocAttr,hg0,hg0,hgx,e2]) | fail));refine ⟨by simp,_,rfl,?_⟩;rw [htk,show Jrt k ((Jqi kids).take 0)=[] from rfl];exact (Jqj (by simp only [Ar]) (by simp (disch:=omega) [Az,A3,Aw,Am,Af,Ai,Au,Aa]) (by simp [Ay]))
   ·rw [if_neg h0];simp only [go_sem,simprocAttr];(refine lws ?_;simp only [go_sem,simprocAttr,hsl2,Jqc]);(repeat' (first | (refine And.intro (by simp only [List.length_append,List.length_cons,List.length_nil];omega) ?_)|(refine And.intro (Jrx _) ?_)|(refine Jqd ?_)|((first | (refine Jqa (hT) ?_)|(refine Jqa (hTx) ?_));simp only [go_sem,simprocAttr,hg0,hg0,hgx,e2]) | fail));refine ⟨by simp,by rw [Jwf,List.length_take];omega,by omega,by omega,_,rfl,?_⟩;rw [htk];exact (Jqj (by simp only [Ar]) (by simp (disch:=omega) [Az,A3,Aw,Am,Af,Ai,Au,Aa]) (by simp [Ay]))
  ·have e2:=eq_false hk2;have ho1:Jsn k (p.1,Jrb p.2)=Jrb p.2:=if_neg hk2;rw [ho1] at htk;generalize Jrb p.2=z at *
   by_cases h0:i=0
   ·subst h0;rw [if_pos rfl];simp only [go_sem,simprocAttr];(refine lws ?_;simp only [go_sem,simprocAttr,hsl2,Jqc]);(repeat' (first | (refine And.intro (Jrx _) ?_)|(refine Jqd ?_)|((refine Jqa (hT) ?_);simp only [go_sem,simprocAttr,hg0,hg0,e2]) | fail));refine ⟨by simp,_,rfl,?_⟩;rw [htk,show Jrt k ((Jqi kids).take 0)=[] from rfl];exact (Jqj (by simp only [Ar]) (by simp (disch:=omega) [Az,A3,Aw,Am,Af,Ai,Au,Aa]) (by simp [Ay]))
   ·rw [if_neg h0];simp only [go_sem,simprocAttr];(refine lws ?_;simp only [go_sem,simprocAttr,hsl2,Jqc]);(repeat' (first | (refine And.intro (Jrx _) ?_)|(refine Jqd ?_)|((refine Jqa (hT) ?_);simp only [go_sem,simprocAttr,hg0,hg0,e2]) | fail));refine ⟨by simp,by rw [Jwf,List.length_take];omega,by omega,by omega,_,rfl,?_⟩;rw [htk];exact (Jqj (by simp only [Ar]) (by simp (disch:=omega) [Az,A3,Aw,Am,Af,Ai,Au,Aa]) (by simp [Ay]))
 case done =>
  rintro R rfl;rw [Jty];have hJ:=J37 (Jsy k g (Jqi kids)) [44,32] (by unfold Jsy;rw [List.length_append,List.length_map];split <;> simp <;> omega) omg;have hjl:(Jqq [44,32] (Jsy k g (Jqi kids))).length≤21000000:=by rw [hql] at hil;omega
  have hkk:k=0∨k=2∨k=3∨k=4∨k=5∨k=6∨k=7∨k=8:=by
   unfold Jqv at h1;by_cases hx:k=0∨k=2∨k=3∨k=4∨k=5∨k=6∨k=7∨k=8
   ·exact hx
   ·rw [if_neg omg,if_neg k1,if_neg h9,if_neg omg,if_neg omg,if_neg omg,if_neg omg] at h1;exact h1.elim
  have hpl:∀ k,(Jrt k (Jqi kids)).length=kids.len:=fun k=>by rw [Jwf,hql]
  clear hIt hE ho h1 h2 h3 hf hq hd1 h9k hil H;by_cases hop:k=2∧g=1
  ·obtain ⟨rfl,rfl⟩:=hop;have hit:Jq1 (Jsy 2 1 (Jqi kids))=Jrt 2 (Jqi kids) ++ [[PV.str [63]]]:=by unfold Jsy Jrt;rw [if_pos ⟨rfl,rfl⟩,Jup]
   rw [hit] at hJ;generalize Jqq [44,32] (Jsy 2 1 (Jqi kids))=x at *
   by_cases hk:kids.len=0
   ·rw [if_pos hk];have hnil:Jqi kids=[]:=List.eq_nil_of_length_eq_zero omg;rw [hnil,show Jrt 2 []=[] from rfl,List.nil_append] at hJ;simp only [go_sem,simprocAttr];refine ⟨_,St.Le.refl _,?_⟩;simp only [go_sem,simprocAttr,hg0];(repeat' (first | (refine And.intro (by intro q hq;simp at hq;subst hq;rfl) ?_)|(refine Jqd ?_)|((refine Jqa (hJ) ?_);simp only [go_sem,simprocAttr,hg0]) | fail))
    all_goals (first | rfl | omega | (simp only [List.length_append,List.length_cons,List.length_nil];omega) | simp [Jr1,Jrn,Jrk])
   ·rw [if_neg hk];have htk:(Jqi kids).take kids.len=Jqi kids:=List.take_of_length_le omg;rw [htk];have hpl2:=hpl 2;have hlx:(Jrt 2 (Jqi kids) ++ [[PV.str [63]]]).length=kids.len+1:=by rw [List.length_append,hpl2];rfl
    have hle1:(kids.len≤kids.len)=True:=eq_true (Nat.le_refl _);have hle2:(kids.len+1≤kids.len+1)=True:=eq_true (Nat.le_refl _);have htk2:List.take (kids.len+1) (Jrt 2 (Jqi kids) ++ [[PV.str [63]]])=Jrt 2 (Jqi kids) ++ [[PV.str [63]]]:=List.take_of_length_le omg;generalize Jrt 2 (Jqi kids)=ws at *
    simp only [go_sem,simprocAttr];refine ⟨_,St.Le.refl _,?_⟩;simp only [go_sem,simprocAttr,hg0,hpl2,hlx,hle2,htk2];(repeat' (first | (refine And.intro (by intro q hq;simp at hq;subst hq;rfl) ?_)|(refine Jqd ?_)|((refine Jqa (hJ) ?_);simp only [go_sem,simprocAttr,hg0]) | fail))
    all_goals (first | rfl | omega | (simp only [List.length_append,List.length_cons,List.length_nil];omega) | simp [Jr1,Jrn,Jrk])
  have hit:Jq1 (Jsy k g (Jqi kids))=Jrt k (Jqi kids):=by unfold Jsy Jrt;rw [if_neg hop,List.append_nil]
  rw [hit] at hJ;generalize Jqq [44,32] (Jsy k g (Jqi kids))=x at *
  have hg2:k=2→(g=1)=False:=fun h=>eq_false fun h'=>hop ⟨h,h'⟩
  by_cases hk:kids.len=0
  ·rw [if_pos hk];have hnil:Jqi kids=[]:=List.eq_nil_of_length_eq_zero omg;rw [hnil,show Jrt k []=[] from rfl] at hJ;simp only [go_sem,simprocAttr];refine ⟨⟨Ba 110 [(1,.ptr 1 0 0),(3,.ptr 3 0 0)],[(3,.var 59 [.p (.sl [])]),(1,.var 40 [.p (.sl (rowL v))])]⟩,Jqb,?_⟩;rcases hkk with rfl | rfl | rfl | rfl | rfl | rfl | rfl | rfl
   ·simp only [go_sem,simprocAttr,hg0,hg0];(repeat' (first | ((refine Jqa (hJ) ?_);simp only [go_sem,simprocAttr,hg0,hg0]) | fail))
    all_goals (first | rfl | omega | (simp only [List.length_append,List.length_cons,List.length_nil];omega) | simp [Jr1,Jrn,Jrk])
   ·have e1:=hg2 rfl;simp only [go_sem,simprocAttr,hg0,hg0,e1];(repeat' (first | (refine Jqd ?_)|((refine Jqa (hJ) ?_);simp only [go_sem,simprocAttr,hg0,hg0]) | fail))
    all_goals (first | rfl | omega | (simp only [List.length_append,List.length_cons,List.length_nil];omega) | simp [Jr1,Jrn,Jrk])
   ·simp only [go_sem,simprocAttr,hg0,hg0];(repeat' (first | (refine Jqd ?_)|((refine Jqa (hJ) ?_);simp only [go_sem,simprocAttr,hg0,hg0]) | fail))
    all_goals (first | rfl | omega | (simp only [List.length_append,List.length_cons,List.length_nil];omega) | simp [Jr1,Jrn,Jrk])
   ·simp only [go_sem,simprocAttr,hg0,hg0];(repeat' (first | (refine Jqd ?_)|((refine Jqa (hJ) ?_);simp only [go_sem,simprocAttr,hg0,hg0]) | fail))
    all_goals (first | rfl | omega | (simp only [List.length_append,List.length_cons,List.length_nil];omega) | simp [Jr1,Jrn,Jrk])
   ·simp only [go_sem,simprocAttr,hg0,hg0];(repeat' (first | (refine Jqd ?_)|((refine Jqa (hJ) ?_);simp only [go_sem,simprocAttr,hg0,hg0]) | fail))
    all_goals (first | rfl | omega | (simp only [List.length_append,List.length_cons,List.length_nil];omega) | simp [Jr1,Jrn,Jrk])
   ·simp only [go_sem,simprocAttr,hg0,hg0];(repeat' (first | (refine Jqd ?_)|((refine Jqa (hJ) ?_);simp only [go_sem,simprocAttr,hg0,hg0]) | fail))
    all_goals (first | rfl | omega | (simp only [List.length_append,List.length_cons,List.length_nil];omega) | simp [Jr1,Jrn,Jrk])
   ·simp only [go_sem,simprocAttr,hg0,hg0];(repeat' (first | (refine And.intro (by simp only [List.length_append,List.length_cons,List.length_nil];omega) ?_)|(refine Jqd ?_)|((refine Jqa (hJ) ?_);simp only [go_sem,simprocAttr,hg0,hg0]) | fail))
    all_goals (first | rfl | omega | (simp only [List.length_append,List.length_cons,List.length_nil];omega) | simp [Jr1,Jrn,Jrk])
   ·simp only [go_sem,simprocAttr,hg0,hg0];(repeat' (first | (refine And.intro (by simp only [List.length_append,List.length_cons,List.length_nil];omega) ?_)|(refine Jqd ?_)|((refine Jqa (hJ) ?_);simp only [go_sem,simprocAttr,hg0,hg0]) | fail))
    all_goals (first | rfl | omega | (simp only [List.length_append,List.length_cons,List.length_nil];omega) | simp [Jr1,Jrn,Jrk])
  ·rw [if_neg hk];have htk:(Jqi kids).take kids.len=Jqi kids:=List.take_of_length_le omg;rw [htk];have hpl2:=hpl k;have hle1:(kids.len≤kids.len)=True:=eq_true (Nat.le_refl _);have htk2:List.take kids.len (Jrt k (Jqi kids))=Jrt k (Jqi kids):=List.take_of_length_le omg;generalize Jrt k (Jqi kids)=ws at *
   simp only [go_sem,simprocAttr];refine ⟨_,St.Le.refl _,?_⟩;rcases hkk with rfl | rfl | rfl | rfl | rfl | rfl | rfl | rfl
   ·simp only [go_sem,simprocAttr,hg0,hpl2,hle1,htk2,hg0,hpl2,hle1,htk2];(repeat' (first | ((refine Jqa (hJ) ?_);simp only [go_sem,simprocAttr,hg0,hg0]) | fail))
    all_goals (first | rfl | omega | (simp only [List.length_append,List.length_cons,List.length_nil];omega) | simp [Jr1,Jrn,Jrk])
   ·have e1:=hg2 rfl;simp only [go_sem,simprocAttr,hg0,hpl2,hle1,htk2,hg0,e1,hpl2,hle1,htk2];(repeat' (first | (refine Jqd ?_)|((refine Jqa (hJ) ?_);simp only [go_sem,simprocAttr,hg0,hg0]) | fail))
    all_goals (first | rfl | omega | (simp only [List.length_append,List.length_cons,List.length_nil];omega) | simp [Jr1,Jrn,Jrk])
   ·simp only [go_sem,simprocAttr,hg0,hpl2,hle1,htk2,hg0,hpl2,hle1,htk2];(repeat' (first | (refine Jqd ?_)|((refine Jqa (hJ) ?_);simp only [go_sem,simprocAttr,hg0,hg0]) | fail))
    all_goals (first | rfl | omega | (simp only [List.length_append,List.length_cons,List.length_nil];omega) | simp [Jr1,Jrn,Jrk])
   ·simp only [go_sem,simprocAttr,hg0,hpl2,hle1,htk2,hg0,hpl2,hle1,htk2];(repeat' (first | (refine Jqd ?_)|((refine Jqa (hJ) ?_);simp only [go_sem,simprocAttr,hg0,hg0]) | fail))
    all_goals (first | rfl | omega | (simp only [List.length_append,List.length_cons,List.length_nil];omega) | simp [Jr1,Jrn,Jrk])
   ·simp only [go_sem,simprocAttr,hg0,hpl2,hle1,htk2,hg0,hpl2,hle1,htk2];(repeat' (first | (refine Jqd ?_)|((refine Jqa (hJ) ?_);simp only [go_sem,simprocAttr,hg0,hg0]) | fail))
    all_goals (first | rfl | omega | (simp only [List.length_append,List.length_cons,List.length_nil];omega) | simp [Jr1,Jrn,Jrk])
   ·simp only [go_sem,simprocAttr,hg0,hpl2,hle1,htk2,hg0,hpl2,hle1,htk2];(repeat' (first | (refine Jqd ?_)|((refine Jqa (hJ) ?_);simp only [go_sem,simprocAttr,hg0,hg0]) | fail))
    all_goals (first | rfl | omega | (simp only [List.length_append,List.length_cons,List.length_nil];omega) | simp [Jr1,Jrn,Jrk])
   ·simp only [go_sem,simprocAttr,hg0,hpl2,hle1,htk2,hg0,hpl2,hle1,htk2];(repeat' (first | (refine And.intro (by simp only [List.length_append,List.length_cons,List.length_nil];omega) ?_)|(refine Jqd ?_)|((refine Jqa (hJ) ?_);simp only [go_sem,simprocAttr,hg0,hg0]) | fail))
    all_goals (first | rfl | omega | (simp only [List.length_append,List.length_cons,List.length_nil];omega) | simp [Jr1,Jrn,Jrk])
   ·simp only [go_sem,simprocAttr,hg0,hpl2,hle1,htk2,hg0,hpl2,hle1,htk2];(repeat' (first | (refine And.intro (by simp only [List.length_append,List.length_cons,List.length_nil];omega) ?_)|(refine Jqd ?_)|((refine Jqa (hJ) ?_);simp only [go_sem,simprocAttr,hg0,hg0]) | fail))
    all_goals (first | rfl | omega | (simp only [List.length_append,List.length_cons,List.length_nil];omega) | simp [Jr1,Jrn,Jrk])
theorem Jvj:∀ n,n≤10000→Jzt n
 | 0,_=>fun t nm _ _ _ h=>by have:=Jrs t nm;omega
 | n+1,h=>Kd0 n omg (Jvj n omg)
attribute [go_sem] Tryz.ntmps114 Tryz.results114 Tryz.ntmps138 Tryz.results138
theorem Kb1:Det cx 138 [.p .snil,.p (.int .i64 0)] [] (.p .snil) []:=by
 have w1:IntKind.i64.wrap 0=0:=by decide
 have c1:((0:Int)<0)=False:=by simp
 (refine bgo Tryz.func138 ?_;simp only [go_sem,simprocAttr,w1,c1,K9,Jjk,Hi])
 skip
theorem Ke9 (n:Nat) (h0:0<n) (hn:n≤1000000):Det cx 138 [.p .snil,.p (.int .i64 n)] [] (.own 900 0 0) [(900,.row 58 11 [])]:=by
 have w1:IntKind.i64.wrap 0=0:=by decide
 have c1:((0:Int)<(n:Int))=True:=eq_true omg;have w2:IntKind.i64.wrap ((n:Int) - 0)=n:=by rw [Aa omg omg];omega
 have c2:((n:Int)<0)=False:=eq_false omg;(refine bgoR true [(22,900)] Tryz.func138 ?_;simp only [go_sem,simprocAttr,w1,c1,w2,c2,K9,Jjk,Hi]);(repeat' (first | (refine Jqd ?_) | fail));omega
theorem J97 (l:List (List YRow)) (hll:l.length≤900000) (hne:∀ p∈l,p≠[]) (hv:(Jrp l).length≤900000):Det cx 114 [.p (.sl (Jqy l))] [] (.p (.sl (rowL (Jrp l)))) []:=by
 have z0:(Jrp []).length=0:=rfl;have z1:Jrp []=[]:=rfl;(refine bgo Tryz.func114 ?_;simp only [go_sem,simprocAttr,Jsp]);refine SWP.loop (fun k:Nat=>⟨Ba 36 [(0,.p (.sl (Jqy l))),(3,.p (.int .i64 (Jrp (l.take k)).length)),(9,.p (.sl (Jqy l))),(10,.p (.int .i64 l.length)),(11,.p (.int .i64 k))],[]⟩) (fun k=>k≤l.length) (fun k=>l.length - k) 0 (by simp only [List.take_zero,z0];exact Jqb) (Nat.zero_le _) ?_;intro k hk;by_cases hlt:¬ k<l.length
 ·have c1:((k:Int)<(l.length:Int))=False:=eq_false omg;have tk:l.take k=l:=List.take_of_length_le omg;have hg:=c1;have w1:=c1;have w2:=c1;have c2:=c1;by_cases hl0:l=[]
  ·subst hl0;have hG:=Kb1;(refine lws ?_;simp only [go_sem,simprocAttr,tk,z0]);(repeat' (first | (apply iteI <;> intro h)|(refine Kc1 ?_;intro b hb)|(refine Jqd ?_)|((refine Jqa (hG) ?_);simp only [go_sem,simprocAttr,Jsp])|(exfalso;omega)));refine SWP.loop (fun i:Nat=>⟨Ba 36 [(6,.p (.sl [])),(25,.p (.sl (Jqy []))),(26,.p (.int .i64 0)),(27,.p (.int .i64 0))],[]⟩) (fun _=>True) (fun _=>0) 0 Jqb trivial ?_;intro i _;(refine lws ?_;simp only [go_sem,simprocAttr]);rw [z1];rfl
  ·have hpos:0<(Jrp l).length:=by
    cases l with
    | nil=>exact absurd rfl hl0
    | cons p l =>
     have h1:=hne p List.mem_cons_self;unfold Jrp;rw [List.flatMap_cons,List.length_append];have:0<p.length:=List.length_pos_iff.2 h1;simp only [id];omega
   have hG:=Ke9 (Jrp l).length hpos omg;(refine lws ?_;simp only [go_sem,simprocAttr,c1,tk]);(repeat' (first | ((refine Jqa (hG) ?_);simp only [go_sem,simprocAttr,Jsp]) | fail));refine Jqn (B1 [(24,33)] _ sm) ?_;simp only [go_sem,simprocAttr];refine SWP.loop (fun k:Nat=>⟨Ba 36 [(6,.own 33 0 (Jrp (l.take k)).length),(25,.p (.sl (Jqy l))),(26,.p (.int .i64 l.length)),(27,.p (.int .i64 k))],[(33,.row 58 11 (rowL (Jrp (l.take k))))]⟩) (fun k=>k≤l.length) (fun k=>l.length - k) 0 (by simp only [List.take_zero,z0,z1,Kdb];exact Jqb) (Nat.zero_le _) ?_;intro j hj;by_cases hjt:¬ j<l.length
   ·have d1:((j:Int)<(l.length:Int))=False:=eq_false omg;have tj:l.take j=l:=List.take_of_length_le omg;have tv:(rowL (Jrp l)).take (Jrp l).length=rowL (Jrp l):=List.take_of_length_le sm;have lv:((Jrp l).length≤(Jrp l).length)=True:=eq_true (Nat.le_refl _);have hg2:=d1;have w3:=d1;(refine lws ?_;simp only [go_sem,simprocAttr,Jqc,d1,tj,tv,lv])
    skip
   ·have hjt:=Decidable.not_not.1 hjt;have d1:((j:Int)<(l.length:Int))=True:=eq_true omg;obtain ⟨p,hp⟩:∃ p,l[j]? = some p:=⟨_,List.getElem?_eq_getElem hjt⟩
    have hg2:(Jqy l)[j]? = some [.sl (rowL p)]:=by exact Jvc hp
    have hs:=J62 l (j+1);have h1:=J24 hp;rw [h1,List.length_append] at hs;have w3:=wj1 (i:=j) omg;have tj:=d1;have tv:=d1;have lv:=d1;(refine lws ?_;simp only [go_sem,simprocAttr,Jqc,d1,hg2,w3]);refine ⟨Jrx _,by omega,by omega,?_⟩;refine ⟨j+1,hjt,by omega,?_⟩;rw [h1,List.length_append,J6q];exact Jqb
 ·have hlt:=Decidable.not_not.1 hlt;have c1:((k:Int)<(l.length:Int))=True:=eq_true omg;obtain ⟨p,hp⟩:∃ p,l[k]? = some p:=⟨_,List.getElem?_eq_getElem hlt⟩
  have hg:(Jqy l)[k]? = some [.sl (rowL p)]:=by exact Jvc hp
  have hs:=J62 l (k+1);have h1:=J24 hp;rw [h1,List.length_append] at hs;have tk:=c1;have w1:=wj1 (i:=k) omg;have w2:IntKind.i64.wrap (((Jrp (l.take k)).length:Int)+(p.length:Int))=(((Jrp (l.take k)).length+p.length:Nat):Int):=by rw [Aa omg omg];omega
  have c2:((((Jrp (l.take k)).length+p.length:Nat):Int)<0)=False:=eq_false omg;have d1:=c1;have tj:=c1;have tv:=c1;have lv:=c1;have hg2:=c1;have w3:=c1;(refine lws ?_;simp only [go_sem,simprocAttr,Jqc,c1,hg,w1,w2,c2]);refine ⟨k+1,hlt,by omega,?_⟩;rw [h1,List.length_append];exact Jqb
attribute [go_sem] Tryz.ntmps42 Tryz.results42 Tryz.ntmps75 Tryz.results75 Tryz.ntmps84 Tryz.results84 Tryz.ntmps108 Tryz.results108
theorem Kc4 (v u:List YRow) (hv:v.length≤1000000) (hu:u.length≤1000000):Det cx 108 [.p (.sl (rowL v)),.p (.sl (rowL u))] [] (.p (.bool (decide (v=u)))) []:=by
 by_cases hl:v.length=u.length
 ·have c0:((v.length:Int)=(u.length:Int))=True:=eq_true omg;(refine bgo Tryz.func108 ?_;simp only [go_sem,simprocAttr,Jqc,c0,not_true_eq_false]);refine SWP.loop (fun i:Nat=>⟨Ba 26 [(0,.p (.sl (rowL v))),(1,.p (.sl (rowL u))),(11,.p (.sl (rowL v))),(12,.p (.int .i64 v.length)),(13,.p (.int .i64 i))],[]⟩) (fun i=>i≤v.length∧v.take i=u.take i) (fun i=>v.length - i) 0 Jqb ⟨Nat.zero_le _,rfl⟩ ?_;rintro i ⟨h1,h3⟩;by_cases hi:¬ i<v.length
  ·have c1:((i:Int)<(v.length:Int))=False:=eq_false omg;(refine lws ?_;simp only [go_sem,simprocAttr,decide_false,c1]);rw [List.take_of_length_le omg,List.take_of_length_le omg] at h3;exact (decide_eq_true h3).symm
  ·have hi:=Decidable.not_not.1 hi;have c1:((i:Int)<(v.length:Int))=True:=eq_true omg;obtain ⟨x,hx⟩:∃ x,v[i]? = some x:=⟨_,List.getElem?_eq_getElem hi⟩
   obtain ⟨y,hy⟩:∃ y,u[i]? = some y:=⟨_,List.getElem?_eq_getElem omg⟩
   have hgx:=Jxn hx;have hgy:=Jxn hy;have w1:=wi1 (i:=i) omg;(refine lws ?_;simp only [go_sem,simprocAttr,c1]);(repeat' (first | (apply iteI <;> intro h)|((refine Jqp ?_);simp only [go_sem,simprocAttr,rowB,hgx,hgy,w1]) | fail))
   ·have hxy:=(show ¬ x=y by assumption)
    refine (decide_eq_false fun e=>hxy ?_).symm;subst e;rw [hx] at hy;exact Option.some.inj hy
   ·have hxy:=Decidable.not_not.1 (show ¬ ¬ x=y by assumption);subst hxy;refine ⟨i+1,⟨by omega,?_⟩,by omega,Jqb⟩;rw [List.take_add_one,List.take_add_one,h3,hx,hy]
 ·have c0:((v.length:Int)=(u.length:Int))=False:=eq_false omg;(refine bgo Tryz.func108 ?_;simp only [go_sem,simprocAttr,Jqc,c0,not_false_eq_true]);exact (decide_eq_false fun e=>hl (by rw [e])).symm
theorem Kel (v u:List YRow) (hv:v.length≤1000000) (hu:u.length≤1000000):Det cx 75 [.p (.sl (rowL v)),.p (.sl (rowL u))] [] (.p (.bool (decide (v=u)))) []:=by
 have hE:=Kc4 v u hv hu;(refine bgo Tryz.func75 ?_;simp only [go_sem,simprocAttr]);(repeat' (first | ((refine Jqa (hE) ?_);simp only [go_sem,simprocAttr]) | fail))
theorem J9f (y:YRow) (l:List (List YRow)) (hll:l.length≤900000) (hne:∀ p∈l,p≠[]) (hv:(Jrp l).length≤900000):Det cx 84 [.p (.agg [.int .i64 y.kind,.int .i64 y.many,.str y.name,.str y.s,.int .i64 y.n,.int .i64 y.c.kind,.int .i64 y.c.many,.str y.c.name,.str y.c.s,.bool y.c.neg,.int .i64 y.c.e]),.p (.sl (Jqy l))] [] (.p (.sl (rowL (y :: Jrp l)))) []:=by
 have hC:=J97 l hll hne hv;have h6:=Jrx (Jrp l);have hrl:(rowL (Jrp l)).length=(Jrp l).length:=Jqc _;rw [Jsk,J7n];generalize rowL (Jrp l)=rows at *
 (refine bgo Tryz.func84 ?_;simp only [go_sem,simprocAttr]);refine Je9 (.node 0 (.node 1 (.node 2 (.node 3 (.node 4 (.node 5 .leaf .nil) .nil) .nil) .nil) (.node 2 (.node 1 (.node 3 (.node 4 (.node 5 .leaf .nil) .nil) .nil) (.node 3 (.node 1 (.node 4 (.node 5 .leaf .nil) .nil) .nil) .nil)) .nil)) (.node 2 (.node 0 (.node 1 (.node 3 (.node 4 (.node 5 .leaf .nil) .nil) .nil) (.node 3 (.node 1 (.node 4 (.node 5 .leaf .nil) .nil) .nil) .nil)) (.node 3 (.node 0 (.node 1 (.node 4 (.node 5 .leaf .nil) .nil) .nil) .nil) .nil)) .nil)) ⟨Ba 10 [(2,.ptr 2 0 0),(4,.own 9 0 (1+(Jrp l).length))],[(9,.row 58 11 ([.int .i64 y.kind,.int .i64 y.many,.str y.name,.str y.s,.int .i64 y.n,.int .i64 y.c.kind,.int .i64 y.c.many,.str y.c.name,.str y.c.s,.bool y.c.neg,.int .i64 y.c.e] :: rows)),(2,.var 58 [.p (.int .i64 y.kind),.p (.int .i64 y.many),.p (.str y.name),.p (.str y.s),.p (.int .i64 y.n),.p (.int .i64 y.c.kind),.p (.int .i64 y.c.many),.p (.str y.c.name),.p (.str y.c.s),.p (.bool y.c.neg),.p (.int .i64 y.c.e)])]⟩ hm krf ?_ ?_
 ·simp (maxSteps:=100000000) only [go_sem,simprocAttr,hrl];(repeat' apply And.intro)
  all_goals (repeat' (first | (refine Jqa hC ?_;simp (maxSteps:=100000000) only [go_sem,simprocAttr,hrl])|(apply And.intro) | fail))
  all_goals first
   | exact trivial
   | exact h6
   | omega
   | (intro q hq;simp only [List.mem_cons,List.not_mem_nil,or_false] at hq;subst hq;rfl)
   | (show St.Le _ _;exact Jqb)
 ·have hp1:(1+(Jrp l).length≤(Jrp l).length+1)=True:=eq_true omg;have ht:List.take (1+(Jrp l).length) ([.int .i64 y.kind,.int .i64 y.many,.str y.name,.str y.s,.int .i64 y.n,.int .i64 y.c.kind,.int .i64 y.c.many,.str y.c.name,.str y.c.s,.bool y.c.neg,.int .i64 y.c.e] :: rows)=[.int .i64 y.kind,.int .i64 y.many,.str y.name,.str y.s,.int .i64 y.n,.int .i64 y.c.kind,.int .i64 y.c.many,.str y.c.name,.str y.c.s,.bool y.c.neg,.int .i64 y.c.e] :: rows:=List.take_of_length_le (by rw [List.length_cons];omega);simp only [go_sem,simprocAttr,hrl,hp1,ht,hrl]
def Jr3 (ns:List (List UInt8)) (ls:List (List YRow)) (k:Nat):List (List YRow):=(List.range k).map (Juy ns ls)
theorem Jun (ns:List (List UInt8)) (ls:List (List YRow)) (k:Nat):Jr3 ns ls (k+1)=Jr3 ns ls k ++ [Juy ns ls k]:=by simp [Jr3,List.range_succ]
theorem Jvh (ns:List (List UInt8)) (ls:List (List YRow)) (k:Nat):(Jr3 ns ls k).length=k:=by simp [Jr3]
theorem Jtw (ns:List (List UInt8)) (ls:List (List YRow)):∀ k,Jrp (Jr3 ns ls k)=Jum ns ls k
 | 0=>rfl
 | k+1=>by
  rw [Jun,Jum,← Jtw ns ls k];simp [Jrp]
theorem Jv0 (l:List (List YRow)) (v:List YRow):Jqy (l ++ [v])=Jqy l ++ [[.sl (rowL v)]]:=by simp [Jqy]
theorem J3x {ns:List (List UInt8)} {ls:List (List YRow)} (hne:∀ v∈ls,v≠[]) {k:Nat} (hk:k≤ls.length):∀ v∈Jr3 ns ls k,v≠[]:=by
 intro v hv;obtain ⟨i,hi,rfl⟩:=List.mem_map.1 hv;have hi:=List.mem_range.1 hi;have hx:ls[i]? = some ls[i]:=List.getElem?_eq_getElem omg;have h1:=hne ls[i] (List.getElem_mem omg);intro h;have h2:=congrArg List.length h;rw [Kbi,List.getD_eq_getElem?_getD,hx] at h2;exact h1 (List.eq_nil_of_length_eq_zero h2)
theorem J15 (y:YRow) (ns:List (List UInt8)) (ls:List (List YRow)) (hl:ls.length≤10000) (hn:ns.length≤10000) (hne:∀ v∈ls,v≠[]) (he:∀ v∈ls,v.length≤900000) (hs:(Jum ns ls ls.length).length≤900000):Det cx 42 [.p (.agg [.int .i64 y.kind,.int .i64 y.many,.str y.name,.str y.s,.int .i64 y.n,.int .i64 y.c.kind,.int .i64 y.c.many,.str y.c.name,.str y.c.s,.bool y.c.neg,.int .i64 y.c.e]),.p (.sl (Jq1 ns)),.p (.sl (Jqy ls))] [] (.p (.sl (rowL (Juz y ns ls)))) []:=by
 have hL:=J9f ⟨y.kind,ls.length,y.name,y.s,y.n,y.c⟩ (Jr3 ns ls ls.length) (by rw [Jvh];omega) (J3x hne (Nat.le_refl _)) (by rw [Jtw];exact hs);rw [Jtw] at hL;simp only at hL;rw [show Juz y ns ls=⟨y.kind,ls.length,y.name,y.s,y.n,y.c⟩ :: Jum ns ls ls.length from rfl];generalize rowL (⟨y.kind,ls.length,y.name,y.s,y.n,y.c⟩ :: Jum ns ls ls.length)=res at *
 (refine bgo Tryz.func42 ?_;simp only [go_sem,simprocAttr,Jsp]);refine Jqn (Js0 _ (i:=7) (d:=36) 40 1 (.inl de) rfl) ?_;simp only [St.nilOwn,St.nilReg,go_sem,simprocAttr,Jsp,Js5];refine SWP.loop (fun k:Nat=>⟨Ba 41 [(1,.p (.sl (Jq1 ns))),(3,.ptr 3 0 0),(7,.own 36 0 k),(13,.p (.sl (Jqy ls))),(14,.p (.int .i64 ls.length)),(15,.p (.int .i64 k))],[(36,.row 40 1 (Jqy (Jr3 ns ls k))),(3,.var 58 [.p (.int .i64 y.kind),.p (.int .i64 ls.length),.p (.str y.name),.p (.str y.s),.p (.int .i64 y.n),.p (.int .i64 y.c.kind),.p (.int .i64 y.c.many),.p (.str y.c.name),.p (.str y.c.s),.p (.bool y.c.neg),.p (.int .i64 y.c.e)])]⟩) (fun k=>k≤ls.length) (fun k=>ls.length - k) 0 (by rw [show Jqy (Jr3 ns ls 0)=[] from rfl];exact Jqb) (Nat.zero_le _) ?_;intro k hk;have hpl:(Jqy (Jr3 ns ls k)).length=k:=by rw [Jsp,Jvh]
 by_cases hlt:k<ls.length
 ·have c1:((k:Int)<(ls.length:Int))=True:=eq_true omg;obtain ⟨v,hq⟩:∃ v,ls[k]? = some v:=⟨_,List.getElem?_eq_getElem hlt⟩
  have hg:=Jvc hq;have hv:=he v (List.mem_of_getElem? hq);have hvn:=hne v (List.mem_of_getElem? hq);obtain ⟨r,rs,rfl⟩:=List.exists_cons_of_ne_nil hvn;rw [List.length_cons] at hv;rw [Jsk,J7n] at hg;have h6:∀ q∈[.int .i64 r.kind,.int .i64 r.many,.str r.name,.str r.s,.int .i64 r.n,.int .i64 r.c.kind,.int .i64 r.c.many,.str r.c.name,.str r.c.s,.bool r.c.neg,.int .i64 r.c.e] :: rowL rs,q.length=11:=by
   intro q hq;rcases List.mem_cons.1 hq with rfl | hq
   ·rfl
   ·exact Jrx rs q hq
  have hC:=Jxy _ (rowL rs) h6 (by rw [Jqc];omega);rw [Jqc] at hC;have htk:List.take rs.length (rowL rs)=rowL rs:=List.take_of_length_le (by rw [Jqc];omega);have hrl:(rowL rs).length=rs.length:=Jqc _;have w1:=wj1 (i:=k) omg;have hle:(rs.length≤rs.length)=True:=eq_true (Nat.le_refl _);have hd:ls.getD k []=r :: rs:=by rw [List.getD_eq_getElem?_getD,hq];rfl
  by_cases hkn:k<ns.length
  ·have c2:((k:Int)<(ns.length:Int))=True:=eq_true omg;obtain ⟨nm,hnm⟩:∃ nm,ns[k]? = some nm:=⟨_,List.getElem?_eq_getElem hkn⟩
   have hgn:=J0e hnm;have hp:Juy ns ls k=⟨r.kind,r.many,nm,r.s,r.n,r.c⟩ :: rs:=by
    unfold Juy;rw [if_pos hkn,hd,List.getD_eq_getElem?_getD,hnm];rfl
   have hx:Jqy (Jr3 ns ls (k+1))=Jqy (Jr3 ns ls k) ++ [[.sl ([.int .i64 r.kind,.int .i64 r.many,.str nm,.str r.s,.int .i64 r.n,.int .i64 r.c.kind,.int .i64 r.c.many,.str r.c.name,.str r.c.s,.bool r.c.neg,.int .i64 r.c.e] :: rowL rs)]]:=by rw [Jun,Jv0,hp,Jsk];rfl
   (refine lws ?_;simp only [go_sem,simprocAttr,c1,hg]);(repeat' (first | (refine Jqd ?_)|((refine Jqa (hC) ?_);simp only [go_sem,simprocAttr,Js5,c2,hgn,hpl,hrl,htk,hle,w1]) | fail));refine ⟨by simp,by omega,by omega,k+1,by omega,by omega,?_⟩;rw [hx];exact Jqb
  ·have c2:((k:Int)<(ns.length:Int))=False:=eq_false omg;have hp:Juy ns ls k=r :: rs:=by
    unfold Juy;rw [if_neg hkn,hd]
   have hx:Jqy (Jr3 ns ls (k+1))=Jqy (Jr3 ns ls k) ++ [[.sl ([.int .i64 r.kind,.int .i64 r.many,.str r.name,.str r.s,.int .i64 r.n,.int .i64 r.c.kind,.int .i64 r.c.many,.str r.c.name,.str r.c.s,.bool r.c.neg,.int .i64 r.c.e] :: rowL rs)]]:=by rw [Jun,Jv0,hp,Jsk];rfl
   (refine lws ?_;simp only [go_sem,simprocAttr,c1,hg]);(repeat' (first | ((refine Jqa (hC) ?_);simp only [go_sem,simprocAttr,Js5,c2,hpl,hrl,htk,hle,w1]) | fail));refine ⟨by simp,by omega,by omega,k+1,by omega,by omega,?_⟩;rw [hx];exact Jqb
 ·obtain rfl:k=ls.length:=by omega
  have c1:((ls.length:Int)<(ls.length:Int))=False:=eq_false omg;have hle:(ls.length≤ls.length)=True:=eq_true (Nat.le_refl _);have htk:List.take ls.length (Jqy (Jr3 ns ls ls.length))=Jqy (Jr3 ns ls ls.length):=List.take_of_length_le omg;(refine lws ?_;simp only [go_sem,simprocAttr,c1,hpl,hle,htk]);(repeat' (first | ((refine Jqa (hL) ?_);simp only [go_sem,simprocAttr]) | fail))
end Go.LX
set_option maxHeartbeats 2000000
namespace Go.LX
open Go Go.RowKit Go.Proofs
attribute [local irreducible] Al SWP Bi
theorem Ke3 (s:List UInt8) (i:Nat) (hs:s.length≤140737488355328) (hi:i≤200000000000000):Det cx 135 [.p (.str s),.p (.int .i64 i)] [] (.p (.bool (ct s i))) []:=by
 (refine bgo Tryz.func135 ?_;simp only [go_sem,simprocAttr]);(repeat' (first | (apply iteI <;> intro h)|(refine Jqd ?_) | fail))
 all_goals (rw [Bool.eq_iff_iff];simp [ct];omega)
theorem Kfd (s:List UInt8) (i:Nat) (hs:s.length≤140737488355328) (hi:i<s.length):Det cx 107 [.p (.str s),.p (.int .i64 i)] [] (.p (.int .i64 (rlen s i))) []:=by
 have w1:=wi1 (i:=i) omg;have w2:=wi2 (i:=i) omg;have w3:=wi3 (i:=i) omg;have hA:=Fr s i;have hB:=Fr s (i+1);(refine bgo Tryz.func107 ?_;simp only [go_sem,simprocAttr,w1]);(repeat' (first | (apply iteI <;> intro h)|(refine Jqd ?_)|((refine Jqa (Ke3 s _ hs omg) ?_);simp only [go_sem,simprocAttr,w1,w2,w3])|(refine And.intro (ct_lt (by assumption)) ?_)|(exfalso;omega)))
 all_goals (clear w1 w2 w3;unfold rlen;simp only [J3] at *;(repeat' split) <;> omega)
theorem Kag (s:List UInt8) (hs:s.length≤140737488355328):Det cx 74 [.p (.str s)] [] (.p (.bool (valid s))) []:=by
 (refine bgo Tryz.func74 ?_;simp only [go_sem,simprocAttr]);refine SWP.loop (fun x:Nat×Nat=>⟨Ba 17 [(0,.p (.str s)),(3,.p (.int .i64 x.1))],[]⟩) (fun x=>x.1≤s.length∧s.length+1≤x.1+x.2∧vF s x.2 x.1=valid s) (fun x=>s.length - x.1) (0,s.length+1) Jqb ⟨by simp,by simp,rfl⟩ ?_;rintro ⟨i,f⟩ ⟨h1,h2,h3⟩;simp only at h1 h2 h3;obtain ⟨g,rfl⟩:∃ g,f=g+1:=⟨f - 1,by omega⟩
 have h4:=Qv s i;have hw:=wia (i:=i) (j:=rlen s i) omg omg;(refine lws ?_;simp only [go_sem,simprocAttr]);(repeat' (first | (apply iteI <;> intro h)|((refine Jqa (Kfd s i hs omg) ?_);simp only [go_sem,simprocAttr,hw]) | fail))
 ·rw [← h3,vF,if_pos omg,if_pos omg]
 ·have:=M4 s i omg;exact ⟨(i+rlen s i,g),⟨by simp only;omega,by simp only;omega,by simp only;rw [← h3,vF,if_pos omg,if_neg omg]⟩,by simp only;omega,Jqb⟩
 ·rw [← h3,vF,if_neg omg]
theorem Jyz (p:List Step) (hp:p.length≤140737488355328) (hn:∀ x∈p,x.name.length≤140737488355328):Det cx 30 [.p (.sl (Bb p))] [] (.p (.bool (decide (E9 p)))) []:=by
 (refine bgo Tryz.func30 ?_;simp only [go_sem,simprocAttr]);refine SWP.loop (fun i:Nat=>⟨Ba 67 [(0,.p (.sl (Bb p))),(3,.p (.int .i64 i))],[]⟩) (fun i=>i≤p.length∧∀ x∈p.take i,Bc x) (fun i=>p.length - i) 0 Jqb ⟨Nat.zero_le _,by simp⟩ ?_;rintro i ⟨h1,h3⟩;by_cases hi:¬ i<p.length
 ·have hc:((i:Int)<(p.length:Int))=False:=eq_false omg;(refine lws ?_;simp only [go_sem,simprocAttr,Aq,hc]);rw [List.take_of_length_le omg] at h3;by_cases hl:p.length≤20
  ·rw [decide_eq_true (show (p.length:Int)≤20 by omega),decide_eq_true ⟨hl,h3⟩]
  ·rw [decide_eq_false (show ¬ (p.length:Int)≤20 by omega),decide_eq_false (fun h=>hl h.1)]
 ·have hi:=Decidable.not_not.1 hi;obtain ⟨x,hx⟩:∃ x,p[i]? = some x:=⟨_,List.getElem?_eq_getElem hi⟩
  have hg:=Dk hx;have hm':=List.mem_of_getElem? hx;have hc:((i:Int)<(p.length:Int))=True:=eq_true omg;have next:Bc x→∀ y∈p.take (i+1),Bc y:=fun hs y hy=>by
   rw [List.take_add_one,hx] at hy;rcases List.mem_append.1 hy with hy | hy
   ·exact h3 y hy
   ·simp at hy;subst hy;exact hs
  have bad:¬ Bc x→false=decide (E9 p):=fun hs=>(decide_eq_false fun h=>hs (h.2 x hm')).symm
  cases hpt:x.part
  ·(refine lws ?_;simp only [go_sem,simprocAttr,hc,Aq,hg,hpt,wi1 (i:=i) omg]);(repeat' (first | (apply iteI <;> intro h)|((refine Jqa (Kag x.name (hn x hm')) ?_);simp only [go_sem,simprocAttr,wi1 (i:=i) omg]) | fail))
   ·exact bad (fun hs=>by unfold Bc at hs;rw [hpt,if_neg sm] at hs;exact absurd hs.1 (by assumption))
   ·exact bad (fun hs=>by unfold Bc at hs;rw [hpt,if_neg sm] at hs;simp_all)
   ·refine ⟨i+1,⟨by omega,next ?_⟩,by omega,Jqb⟩;unfold Bc;rw [hpt,if_neg sm];exact ⟨by omega,by simp_all⟩
  ·(refine lws ?_;simp only [go_sem,simprocAttr,hc,Aq,hg,hpt,wi1 (i:=i) omg]);(repeat' (apply iteI <;> intro h))
   ·exact bad (fun hs=>by unfold Bc at hs;rw [hpt,if_pos rfl] at hs;have e:x.name.length=0:=(by rw [hs.1];rfl);omega)
   ·exact bad (fun hs=>by unfold Bc at hs;rw [hpt,if_pos rfl] at hs;omega)
   ·exact bad (fun hs=>by unfold Bc at hs;rw [hpt,if_pos rfl] at hs;omega)
   ·refine ⟨i+1,⟨by omega,next ?_⟩,by omega,Jqb⟩;unfold Bc;rw [hpt,if_pos rfl];exact ⟨List.eq_nil_of_length_eq_zero omg,by omega,by omega⟩
theorem J10 (nm:List UInt8) (k:Int) (hk:k≠1) (s:List UInt8) (g:Int) (c:Node) (kids:RF):Det cx 32 [.p (.sl (rowL ((RT.mk k s g c kids).enc nm)))] [] (.p .snil) []:=by
 have hg0:(rowL ((RT.mk k s g c kids).enc nm))[0]? = some [.int .i64 k,.int .i64 kids.len,.str nm,.str s,.int .i64 g,.int .i64 c.kind,.int .i64 c.many,.str c.name,.str c.s,.bool c.neg,.int .i64 c.e]:=by rw [Jqh];rfl
 generalize rowL ((RT.mk k s g c kids).enc nm)=rows at *
 have e1:=eq_false hk;(refine bgo Tryz.func32 ?_;simp only [go_sem,simprocAttr,hg0,e1,not_false_eq_true])
 skip
theorem row_n {k:Int} {s:List UInt8} {n:Int} {c:Node} {m:Int} (h:Jqv k s n c m):0≤n∧n≤1000000:=by
 unfold Jqv at h
 repeat' split at h
 all_goals first
  | exact h.elim
  | (have h1:=h.2.2.1;omega)
  | (have h1:=h.2.1;have h2:=h.2.2.1;omega)
  | (have h1:=h.2.1;omega)
  | (have h1:=h.2.2.1;omega)
  | (have h1:=h.2.2.1;omega)
  | (have h1:=h.2.2;unfold Jrf at h1;omega)
mutual
theorem J4r:∀ (t:RT) (nm:List UInt8),okR t→(∀ r∈t.enc nm,Jtq r)→fitQ t
 | .mk k s n c kids,nm,ho,h=>by
  obtain ⟨h1,h2,_,h3⟩:=Jr5.1 ho;rw [Jqh] at h;obtain ⟨a,b,d,e,f⟩:=h _ List.mem_cons_self;have hn:=row_n h1;rw [fitQ];exact ⟨⟨a,d,by omega,by omega,e,f⟩,J49 kids h3 fun r hr=>h r (List.mem_cons_of_mem _ hr)⟩
theorem J49:∀ (f:RF),okRF f→(∀ r∈f.enc,Jtq r)→Jsz f
 | .nil,_,_=>by rw [Jsz];trivial
 | .cons nm t r,ho,h=>by
  rw [Jrv] at ho;obtain ⟨h1,h2⟩:=ho;rw [Jqe] at h;rw [Jsz];refine ⟨?_,J4r t nm h1 fun x hx=>h x (List.mem_append_left _ hx),J49 r h2 fun x hx=>h x (List.mem_append_right _ hx)⟩;cases t with
  | mk k s n c kids =>
   have:=h ⟨k,kids.len,nm,s,n,c⟩ (List.mem_append_left _ (by rw [Jqh];exact List.mem_cons_self));exact this.2.1
end
theorem Jud {v:List YRow} {m:Nat} (hv:FiFit v) (h:Jsq v m=true) (hr:Jrr v=true):∃ t:RT,okR t∧t.kind≠9∧v=t.enc []∧(t.enc []).length≤m∧fitQ t∧∀ r∈t.enc [],Jtq r:=by
 obtain ⟨t,h1,h2,rfl⟩:=Jr7.1 hr;obtain ⟨a,b⟩:=Jtp hv h;exact ⟨t,h1,h2,rfl,a,J4r t [] h1 b,b⟩
end Go.LX
