/- Types: how long their texts are. Plain. -/
import Derived.Test.YtpdaccjebbbbaaaGreatDoorLxZ
import Derived.Test.YtpdaccjebbbbaaaGreatDoorLxY
import Derived.Test.YtpdaccjebbbbaaaGreatDoorLxX
import Derived.Test.YtpdaccjebbbbaaaGreatDoorLxV
import Derived.Test.YtpdaccjebbbbaaaGreatDoorLxW
import Derived.Test.YtpdaccjebbbbaaaGreatDoorLxP
set_option linter.unusedSimpArgs false
set_option linter.unusedVariables false
set_option linter.unusedSectionVars false
set_option linter.unnecessarySimpa false
set_option maxRecDepth 100000
namespace Go.LX
open Go
def sumX (l:List TTx):Nat:=(l.map fun p=>p.2.length).sum
theorem J64 (k:Nat):(Juk k).length≤5:=by
 unfold Juk
 repeat' split
 all_goals simp
theorem J7a (m:Nat):(Jv0 m).length≤5:=by
 unfold Jv0;rw [List.length_map];exact Nat.le_trans (List.length_filter_le _ _) sm
theorem J16 {l:List (List UInt8)} {k:Nat} (h:∀ x∈l,x.length≤k):sumT l≤k * l.length:=by
 induction l with
 | nil=>simp [sumT]
 | cons x l ih =>
  have h1:=ih fun y hy=>h y (List.mem_cons_of_mem _ hy)
  have h2:=h x List.mem_cons_self;simp only [sumT,List.map_cons,List.sum_cons,List.length_cons,Nat.mul_add] at h1 ⊢;omega
theorem Kae (m:Nat):(Jrm [124] (Jv0 m)).length≤30:=by
 have h1:=Jtl [124] (Jv0 m);have h2:=J7a m;have h3:sumT (Jv0 m)≤5 * (Jv0 m).length:=J16 fun x hx=>by
  unfold Jv0 at hx;obtain ⟨k,_,rfl⟩:=List.mem_map.1 hx;exact J64 k
 simp only [List.length_cons,List.length_nil] at h1;omega
theorem J03 {a:Int×Node} (h:a.2.s.length≤100∧-9223372036854775808≤a.2.e∧a.2.e≤9223372036854775807):(Jrw a).length≤703:=by
 have h1:=J3g h.1 h.2.1 h.2.2;have h2:=J8k a.1;unfold Jrw;simp only [List.length_append,List.length_cons,List.length_nil];omega
theorem J7w {m:Nat} {l:List (Int×Node)} (h:∀ a∈l,a.2.s.length≤100∧-9223372036854775808≤a.2.e∧a.2.e≤9223372036854775807):(Ju6 m l).length≤710 * l.length+40:=by
 have h1:=Kae m;have h2:=Jtl [44,32] (l.map Jrw);have h3:sumT (l.map Jrw)≤703 * (l.map Jrw).length:=J16 fun x hx=>by
  obtain ⟨a,ha,rfl⟩:=List.mem_map.1 hx;exact J03 (h a ha)
 rw [List.length_map] at h2 h3;simp only [List.length_cons,List.length_nil] at h2;unfold Ju6;split
 ·simp only [List.length_append,List.length_nil];omega
 ·simp only [List.length_append,List.length_cons,List.length_nil];omega
theorem J4d {p:TTx} (h:p.1.length≤100):(Jta p).length≤p.2.length+604:=by
 have:=J9j p.1;unfold Jta;simp only [List.length_append,List.length_cons,List.length_nil];omega
theorem J0z {l:List TTx} (h:∀ p∈l,p.1.length≤100):sumT (l.map Jta)≤sumX l+604 * l.length:=by
 induction l with
 | nil=>simp [sumT,sumX]
 | cons p l ih =>
  have h1:=ih fun y hy=>h y (List.mem_cons_of_mem _ hy)
  have h2:=J4d (h p List.mem_cons_self);simp only [sumT,sumX,List.map_cons,List.sum_cons,List.length_cons,Nat.mul_add] at h1 ⊢;omega
theorem J34 (a b:List (List UInt8)):sumT (a ++ b)=sumT a+sumT b:=by simp [sumT]
theorem J7p (n:Int):sumT (Jws n)≤1∧(Jws n).length≤1:=by
 unfold Jws;split <;> simp [sumT]
theorem J9d (k:Int) (s:List UInt8):(Jr9 k s).length≤s.length+10:=by
 unfold Jr9
 repeat' split
 all_goals (simp only [List.length_append,List.length_cons,List.length_nil];omega)
theorem J71 {k:Int} {s:List UInt8} {n:Int} {l:List TTx} {ats:List (Int×Node)} (hs:s.length≤100) (hl:∀ p∈l,p.1.length≤100) (ha:∀ a∈ats,a.2.s.length≤100∧-9223372036854775808≤a.2.e∧a.2.e≤9223372036854775807):(Ju4 k s n l ats).length≤sumX l+610 * l.length+710 * ats.length+200:=by
 unfold Ju4;refine J8c ?_ ?_
 ·exact Nat.le_trans (by decide:_≤20) omg
 refine J8c ?_ ?_
 ·have:=J7w (m:=n.toNat) ha;omega
 refine J8c ?_ ?_
 ·have h1:=Jtl [44,32] (l.map Jta ++ Jws n);have h2:=J0z hl;have h3:=J7p n;rw [J34,List.length_append,List.length_map] at h1;simp only [List.length_append,List.length_cons,List.length_nil] at h1 ⊢;omega
 ·have h1:=Jtl [44,32] (l.map (·.2));have h2:sumT (l.map (·.2))=sumX l:=by unfold sumT sumX;rw [List.map_map];rfl
  have h3:=J9d k s;rw [List.length_map] at h1;simp only [List.length_append,List.length_cons,List.length_nil] at h1 ⊢;omega
theorem Jwx:∀ {f:RF},Jug f→∀ a∈Jqq f.list,a.2.s.length≤100∧-9223372036854775808≤a.2.e∧a.2.e≤9223372036854775807
 | .nil,_,a,h=>by cases h
 | .cons nm (.mk k s n c kids) r,hf,a,h=>by
  rw [Jug,fitQ] at hf;obtain ⟨_,⟨⟨_,h2,_,_,h5,h6⟩,_⟩,h7⟩:=hf;rcases List.mem_cons.1 h with rfl | h
  ·exact ⟨h2,h5,h6⟩
  ·exact Jwx h7 a h
mutual
theorem J38:∀ (t:RT),fitQ t→∀ nm,(Js5 t).length+1320≤2000 * (t.enc nm).length
 | .mk k s n c kids,h,nm=>by
  rw [fitQ] at h;obtain ⟨h1,h2⟩:=h;have h3:=Jwr kids h2;have h4:=J71 (k:=k) (n:=n) (l:=Jqs kids) (ats:=Jqq kids.list) h1.1 h3.1 (Jwx h2);have h5:=Jyp kids;have h6:=Jq9 kids;have h7:(Jqq kids.list).length=kids.len:=by unfold Jqq;rw [List.length_map,Jrb]
  rw [J2g,Jqi,List.length_cons];omega
theorem Jwr:∀ (f:RF),Jug f→(∀ p∈Jqs f,p.1.length≤100)∧sumX (Jqs f)+1320 * f.len≤2000 * f.enc.length
 | .nil,_=>by simp [Jqs,sumX,RF.len]
 | .cons nm t r,h=>by
  rw [Jug] at h;have h1:=J38 t h.2.1 nm;obtain ⟨h2,h3⟩:=Jwr r h.2.2;rw [Jqs];refine ⟨List.forall_mem_cons.2 ⟨h.1,h2⟩,?_⟩;rw [Jqf,List.length_append];simp only [sumX,List.map_cons,List.sum_cons,Jr6] at h3 ⊢;omega
end
end Go.LX
set_option maxHeartbeats 2000000
namespace Go.LX
open Go Go.RowKit Go.Proofs
attribute [local irreducible] Al SWP Bi
theorem Kaa (v u:List YRow) (hv:v.length≤1000000) (hu:u.length≤1000000):Det cx 7 [.p (.sl (rowL v)),.p (.sl (rowL u))] [] (.p (.bool (decide (v=u)))) []:=by
 by_cases hl:v.length=u.length
 ·have c0:((v.length:Int)=(u.length:Int))=True:=eq_true omg;(refine bgo Tryz.func7 ?_;simp only [go_sem,simprocAttr,Jqb,c0]);refine SWP.loop (fun i:Nat=>⟨Ba 26 [(0,.p (.sl (rowL v))),(1,.p (.sl (rowL u))),(5,.p (.int .i64 i))],[]⟩) (fun i=>i≤v.length∧v.take i=u.take i) (fun i=>v.length - i) 0 Jqc ⟨Nat.zero_le _,rfl⟩ ?_;rintro i ⟨h1,h3⟩;by_cases hi:¬ i<v.length
  ·have c1:((i:Int)<(v.length:Int))=False:=eq_false omg;have hgx:=c1;have hgy:=c1;(refine lws ?_;simp only [go_sem,simprocAttr,Jqb,c1]);rw [List.take_of_length_le omg,List.take_of_length_le omg] at h3;exact (decide_eq_true h3).symm
  ·have hi:=Decidable.not_not.1 hi;have c1:((i:Int)<(v.length:Int))=True:=eq_true omg;obtain ⟨x,hx⟩:∃ x,v[i]? = some x:=⟨_,List.getElem?_eq_getElem hi⟩
   obtain ⟨y,hy⟩:∃ y,u[i]? = some y:=⟨_,List.getElem?_eq_getElem omg⟩
   have hgx:=Jwb hx;have hgy:=Jwb hy;have w1:=wi1 (i:=i) omg;(refine lws ?_;simp only [go_sem,simprocAttr,Jqb,c1]);(repeat' (first | (apply iteI <;> intro h)|((refine Jql ?_);simp only [go_sem,simprocAttr,rowB,hgx,hgy,w1]) | fail))
   ·have hxy:=(show ¬ x=y by assumption)
    refine (decide_eq_false fun e=>hxy ?_).symm;subst e;rw [hx] at hy;exact Option.some.inj hy
   ·have hxy:=Decidable.not_not.1 (show ¬ ¬ x=y by assumption);subst hxy;refine ⟨i+1,⟨by omega,?_⟩,by omega,Jqc⟩;rw [List.take_add_one,List.take_add_one,h3,hx,hy]
 ·have c0:((v.length:Int)=(u.length:Int))=False:=eq_false omg;have c1:=c0;have hgx:=c0;have hgy:=c0;(refine bgo Tryz.func7 ?_;simp only [go_sem,simprocAttr,Jqb,c0]);exact (decide_eq_false fun e=>hl (by rw [e])).symm
def J17 (m k:Nat):List UInt8:=Jrm [124] (((List.range k).filter fun j:Nat=>Js1 m j).map Juk)
theorem J7j:∀ m<32,∀ k<6,(J17 m k).length≤30:=by decide +kernel
def Jt5 (l:List (Int×Node)) (i:Nat):List UInt8:=if i=0 then [] else 40 :: Jrm [44,32] ((l.take i).map Jrw)
theorem J2r (m:Nat) (l:List (Int×Node)):Ju6 m l=J17 m 5 ++ Jt5 l l.length ++ (if l=[] then [] else [41]):=by
 unfold Ju6 Jt5 J17 Jv0;by_cases h:l=[]
 ·subst h;simp
 ·have:l.length≠0:=fun e=>h (List.eq_nil_of_length_eq_zero e)
  rw [if_neg h,if_neg h,if_neg this,List.take_length];simp
theorem J4x {l:List (Int×Node)} (h:∀ a∈l,a.2.s.length≤100∧-9223372036854775808≤a.2.e∧a.2.e≤9223372036854775807) (i:Nat):(Jt5 l i).length≤710 * l.length+10:=by
 unfold Jt5;split
 ·simp
 ·have h2:=Jtl [44,32] ((l.take i).map Jrw);have h3:sumT ((l.take i).map Jrw)≤703 * ((l.take i).map Jrw).length:=J16 fun x hx=>by
   obtain ⟨a,ha,rfl⟩:=List.mem_map.1 hx;exact J03 (h a (List.mem_of_mem_take ha))
  rw [List.length_map,List.length_take] at h2 h3;simp only [List.length_cons,List.length_nil] at h2 ⊢;omega
def Jtj (k:Int) (p:TTx):List UInt8:=if k=2 then Jta p else p.2
theorem J4a {k:Int} {l:List TTx} (h:∀ p∈l,p.1.length≤100):sumT (l.map (Jtj k))≤sumX l+604 * l.length:=by
 by_cases hk:k=2
 ·rw [show l.map (Jtj k)=l.map Jta from List.map_congr_left fun p _=>if_pos hk];exact J0z h
 ·rw [show l.map (Jtj k)=l.map (·.2) from List.map_congr_left fun p _=>if_neg hk];have h2:sumT (l.map (·.2))=sumX l:=by unfold sumT sumX;rw [List.map_map];rfl
  omega
theorem J8r {f:RF} (h:(f.len:Int)=0):f=.nil:=by
 match f,h with
 | .nil,_=>rfl
 | .cons _ _ r,h=>simp only [RF.len] at h;omega
theorem J7v {kids:RF} (h1:okRF kids) (h2:∀ p∈kids.list,Jvp 1 p):Jyj kids.list∧∀ a∈Jqq kids.list,Jrg a.1 a.2:=by
 have key:∀ p∈kids.list,p.2.kids=.nil∧Jrg p.2.n p.2.c:=by
  intro p hp;obtain ⟨g1,g2,_⟩:=h2 p hp;have g3:=Jv1.1 h1 p hp;obtain ⟨nm,⟨k,s,n,c,ks⟩⟩:=p;have g4:k=9:=g1.2 rfl;subst g4;have g6:=(Jsv.1 g3).1;unfold Jqu at g6;rw [if_neg omg,if_neg omg,if_pos rfl] at g6;exact ⟨J8r g6.1,g6.2.2⟩
 refine ⟨fun p hp=>(key p hp).1,fun a ha=>?_⟩;obtain ⟨p,hp,rfl⟩:=List.mem_map.1 ha;exact (key p hp).2
@[go_sem] theorem f_ba5 {parts:List (Nat×L)} {K:L→Prop}:Vf Tryz.prog 86 parts K=(Tryz.prog.cellsOf 9=1∧5=parts.length∧zok (Bu Tryz.prog 86) 5∧Bq (Jue 0 parts) (kagg K)):=Jya f_u86
def Jqz (m k:Nat):List (List UInt8):=((List.range k).filter fun j:Nat=>Js1 m j).map Juk
theorem J1c (m k:Nat):Jqz m (k+1)=Jqz m k ++ (if Js1 m k=true then [Juk k] else []):=by
 unfold Jqz;rw [List.range_succ,List.filter_append,List.map_append];congr 1;by_cases h:Js1 m k=true
 ·rw [if_pos h];simp [h]
 ·rw [if_neg h];simp [h]
theorem Jxb (m k:Nat):(Jqz m k).length≤k:=by
 unfold Jqz;rw [List.length_map];exact Nat.le_trans (List.length_filter_le _ _) sm
theorem Jyb (m:Nat):Jrm [124] (Jqz m 5)=J17 m 5:=rfl
theorem J8g:∀ (m:Fin 32) (k:Fin 5),decide (IntKind.i64.wrap ((BitVec.ofInt (B0 .i64) (((m.val:Int)).fdiv (2 ^ min k.val (B0 .i64))) &&& BitVec.ofInt (B0 .i64) 1).toNat:Int)=1)=Js1 m.val k.val:=by decide +kernel
theorem Kah {m k:Nat} (hm':m<32) (k5:k<5):(IntKind.i64.wrap ((BitVec.ofInt (B0 .i64) ((m:Int).fdiv (2 ^ min k (B0 .i64))) &&& BitVec.ofInt (B0 .i64) 1).toNat:Int)=1)=(Js1 m k=true):=by
 have:=J8g ⟨m,by omega⟩ ⟨k,by omega⟩;simp only at this;rw [← this,decide_eq_true_eq]
theorem J96:∀ k<5,([.str [110,117,108,108],.str [102,97,108,115,101],.str [116,114,117,101],.str [110,117,109],.str [115,116,114]]:List PV)[k]? = some (.str (Juk k)):=by
 intro k hk;rcases (by omega:k=0∨k=1∨k=2∨k=3∨k=4) with rfl | rfl | rfl | rfl | rfl <;> rfl
theorem Jtm (l:List (List UInt8)) (x:List UInt8):Jqr (l ++ [x])=Jqr l ++ [[.str x]]:=by simp [Jqr]
theorem Kai (nm:List UInt8) (s:List UInt8) (g:Int) (c:Node) (kids:RF) (hv:kids.enc.length≤10000) (hlf:Jyj kids.list) (g1:1≤g) (g2:g≤31) (ha:∀ a∈Jqq kids.list,Jrg a.1 a.2) (hf:Jug kids):Det cx 31 [.p (.sl (rowL ((RT.mk 1 s g c kids).enc nm)))] [] (.p (.str (Ju6 g.toNat (Jqq kids.list)))) []:=by
 have hA:=J3h nm s g c kids omg hlf;have hal:(Jqq kids.list).length=kids.len:=by unfold Jqq;rw [List.length_map,Jrb]
 have hle:=Jq9 kids;have hfa:=Jwx hf;have hg0:(rowL ((RT.mk 1 s g c kids).enc nm))[0]? = some [.int .i64 1,.int .i64 kids.len,.str nm,.str s,.int .i64 g,.int .i64 c.kind,.int .i64 c.many,.str c.name,.str c.s,.bool c.neg,.int .i64 c.e]:=by rw [Jqi];rfl
 generalize rowL ((RT.mk 1 s g c kids).enc nm)=rows at *
 obtain ⟨m,rfl⟩:∃ m:Nat,g=m:=⟨g.toNat,by omega⟩
 rw [Int.toNat_natCast];have hm32:m<32:=by omega
 generalize hL:Jqq kids.list=l at *
 rw [J2r,← Jyb];(refine bgo Tryz.func31 ?_;simp only [go_sem,simprocAttr]);refine Jqn (Jsz _ (i:=3) (d:=27) 9 1 (.inl de) rfl) ?_;simp only [St.nilOwn,St.nilReg,go_sem,simprocAttr];refine J4y (fun k:Nat=>⟨Ba 63 [(0,.p (.sl rows)),(3,.own 27 0 (Jqz m k).length),(11,.p (.agg [.str [110,117,108,108],.str [102,97,108,115,101],.str [116,114,117,101],.str [110,117,109],.str [115,116,114]])),(12,.p (.int .i64 k))],[(27,.row 9 1 (Jqr (Jqz m k)))]⟩) (fun k=>k≤5) (fun k=>5 - k) 0 0 (fun _:Nat=>⟨Ba 63 [(0,.p (.sl rows)),(3,.own 27 0 (Jqz m 5).length)],[(27,.row 9 1 (Jqr (Jqz m 5)))]⟩) (fun _=>True) (by rw [show Jqz m 0=[] from rfl,show Jqr []=[] from rfl];exact Jqc) (Nat.zero_le _) ?_ ?_
 ·intro k hk;have hwl:=Jxb m k;have hpl:(Jqr (Jqz m k)).length=(Jqz m k).length:=Jrs _;have hws:=J1c m k;by_cases hlt:k<5
  ·have c1:((k:Int)<5)=True:=eq_true omg;have hwa:=J96 k hlt;have hsh:=Kah hm32 hlt;have w1:=wj1 (i:=k) omg;cases hb:Js1 m k with
   | false =>
    rw [hb,if_neg sm,List.append_nil] at hws;have hsh:=hsh.trans (show (Js1 m k=true)=False by rw [hb];simp);(refine lws ?_;simp only [go_sem,simprocAttr,c1,hg0,hwa,hsh,w1]);exact ⟨k+1,by omega,by omega,by rw [hws];exact Jqc⟩
   | true =>
    rw [hb,if_pos rfl] at hws;have hsh:=hsh.trans (show (Js1 m k=true)=True by rw [hb];simp);have hn1:Jqr (Jqz m (k+1))=Jqr (Jqz m k) ++ [[.str (Juk k)]]:=by rw [hws,Jtm]
    have hl1:(Jqz m (k+1)).length=(Jqz m k).length+1:=by rw [hws];simp
    (refine lws ?_;simp only [go_sem,simprocAttr,c1,hg0,hwa,hsh,w1,hpl]);refine ⟨by simp,by omega,by omega,k+1,by omega,by omega,?_⟩;rw [hn1,hl1];exact Jqc
  ·obtain rfl:k=5:=by omega
   (refine lws ?_;simp only [go_sem,simprocAttr]);exact ⟨0,Jqc⟩
 ·intro _ _;have hwl:=Jxb m 5;have hml:=J7j m hm32 5 omg;rw [← Jyb] at hml;have hJ:=J18 (Jqz m 5) [124] omg omg;have hpl:(Jqr (Jqz m 5)).length=(Jqz m 5).length:=Jrs _;have hle1:((Jqz m 5).length≤(Jqz m 5).length)=True:=eq_true (Nat.le_refl _);have htk1:List.take (Jqz m 5).length (Jqr (Jqz m 5))=Jqr (Jqz m 5):=List.take_of_length_le omg;generalize Jrm [124] (Jqz m 5)=z at *
  generalize Jqz m 5=ws at *
  simp only [go_sem,simprocAttr,hpl,hle1,htk1];(repeat' (first | ((first | (refine Jqa (hJ) ?_)|(refine Jqa (hA) ?_));simp only [go_sem,simprocAttr]) | fail));refine Jqn (Jsz _ (i:=7) (d:=51) 9 1 (.inl de) rfl) ?_;simp only [St.nilOwn,St.nilReg,go_sem,simprocAttr,hpl,hle1,htk1,if_true];refine SWP.loop (fun i:Nat=>⟨Ba 63 [(6,.p (.str z)),(7,.own 51 0 i),(32,.p (.sl (Jq8 l))),(33,.p (.int .i64 l.length)),(34,.p (.int .i64 i))],[(51,.row 9 1 (Jqr ((l.take i).map Jrw)))]⟩) (fun i=>i≤l.length) (fun i=>l.length - i) 0 (by rw [List.take_zero,List.map_nil,show Jqr []=[] from rfl];exact Jqc) (Nat.zero_le _) ?_;intro i hi;have hpl2:(Jqr ((l.take i).map Jrw)).length=i:=by rw [Jrs,List.length_map,List.length_take];omega
  by_cases hlt:i<l.length
  ·have c1:((i:Int)<(l.length:Int))=True:=eq_true omg;obtain ⟨⟨n,d⟩,hq⟩:∃ a,l[i]? = some a:=⟨_,List.getElem?_eq_getElem hlt⟩
   have hg:=Jva hq;obtain ⟨n0,n5,hpd⟩:=ha _ (List.mem_of_getElem? hq);obtain ⟨fd,fd1,fd2⟩:=hfa _ (List.mem_of_getElem? hq);simp only at hg n0 n5 hpd fd fd1 fd2;have hX:=J5f d hpd omg;have hxl:=J3g fd fd1 fd2;have w1:=wj1 (i:=i) omg;have hat:Jrw (n,d)=Jxy n ++ [32] ++ Jrx d:=rfl;have hn1:Jqr ((l.take (i+1)).map Jrw)=Jqr ((l.take i).map Jrw) ++ [[.str (Jxy n ++ [32] ++ Jrx d)]]:=by
    rw [List.take_add_one,hq,Option.toList_some,List.map_append,List.map_cons,List.map_nil,Jtm,hat]
   generalize Jrx d=x at *
   rcases (by omega:n=0∨n=1∨n=2∨n=3∨n=4∨n=5) with rfl | rfl | rfl | rfl | rfl | rfl <;> (
    simp only [Jxy,Int.reduceEq,if_true,if_false,reduceIte] at hn1;(refine lws ?_;simp only [go_sem,simprocAttr,c1,hg]);(repeat' (first | (refine Jqd ?_)|((refine Jqa (hX) ?_);simp only [go_sem,simprocAttr,w1,hpl2]) | fail));refine ⟨by simp,by omega,by omega,i+1,by omega,by omega,?_⟩;rw [hn1];exact Jqc)
  ·obtain rfl:i=l.length:=by omega
   have c1:((l.length:Int)<(l.length:Int))=False:=eq_false omg;rw [List.take_length] at *
   by_cases h0:l=[]
   ·have c0:((0:Int)<(l.length:Int))=False:=eq_false (by rw [h0];simp);rw [if_pos h0,show Jt5 l l.length=[] by rw [h0];rfl,List.append_nil,List.append_nil];(refine lws ?_;simp only [go_sem,simprocAttr,c1,c0])
    skip
   ·have hpos:=List.length_pos_iff.2 h0;have c0:((0:Int)<(l.length:Int))=True:=eq_true omg;have hpre:=J4x hfa l.length;have hsp:Jt5 l l.length=40 :: Jrm [44,32] (l.map Jrw):=by
     unfold Jt5;rw [if_neg omg,List.take_length]
    rw [hsp] at hpre ⊢;rw [List.length_cons] at hpre;have hJ2:=J18 (l.map Jrw) [44,32] (by rw [List.length_map];omega) omg;have hle2:(l.length≤l.length)=True:=eq_true (Nat.le_refl _);have htk2:List.take l.length (Jqr (l.map Jrw))=Jqr (l.map Jrw):=List.take_of_length_le omg;rw [if_neg h0];generalize Jrm [44,32] (l.map Jrw)=y at *
    (refine lws ?_;simp only [go_sem,simprocAttr,c1,c0,hpl2,hle2,htk2]);(repeat' (first | (refine And.intro (by simp only [List.length_append,List.length_cons,List.length_nil];omega) ?_)|(refine Jqd ?_)|((refine Jqa (hJ2) ?_);simp only [go_sem,simprocAttr]) | fail))
    all_goals (first | (simp only [List.length_append,List.length_cons,List.length_nil];omega) | simp)
def Jyc (n:Nat):Prop:=∀ (t:RT) (nm:List UInt8),okR t→t.kind≠9→fitQ t→(t.enc nm).length≤n→Det cx 16 [.p (.sl (rowL (t.enc nm)))] [] (.p (.str (Js5 t))) []
def Jrc (k:Int) (l:List TTx):List (List PV):=Jqr (l.map (Jtj k))
theorem Ju3 (k:Int) (l:List TTx):(Jrc k l).length=l.length:=by simp [Jrc]
theorem J10 {k:Int} {l:List TTx} {i:Nat} {p:TTx} (h:l[i]? = some p):Jrc k (l.take (i+1))=Jrc k (l.take i) ++ [[.str (Jtj k p)]]:=by
 unfold Jrc;rw [List.take_add_one,h,Option.toList_some,List.map_append,List.map_cons,List.map_nil,Jtm]
def Jrh (k:Int) (s x:List UInt8):List UInt8:=if k=0 then [97,110,121] else if k=2 then 123 :: (x ++ [125]) else Jr9 k s ++ x ++ [Jsk k]
def Jsa (k:Int) (n:Int) (l:List TTx):List (List UInt8):=l.map (Jtj k) ++ (if k=2∧n=1 then [[63]] else [])
theorem Jzx {k:Int} (hk1:k≠1) (s:List UInt8) (n:Int) (l:List TTx) (ats:List (Int×Node)):Ju4 k s n l ats=Jrh k s (Jrm [44,32] (Jsa k n l)):=by
 unfold Ju4 Jrh Jsa;by_cases h0:k=0
 ·rw [if_pos h0,if_pos h0]
 rw [if_neg h0,if_neg hk1,if_neg h0];by_cases h2:k=2
 ·rw [if_pos h2,if_pos h2,show l.map (Jtj k)=l.map Jta from List.map_congr_left fun p _=>if_pos h2];unfold Jws;by_cases hn:n=1
  ·rw [if_pos hn,if_pos ⟨h2,hn⟩]
  ·rw [if_neg hn,if_neg fun h=>hn h.2]
 ·rw [if_neg h2,if_neg h2,show l.map (Jtj k)=l.map (·.2) from List.map_congr_left fun p _=>if_neg h2,if_neg fun h=>h2 h.1,List.append_nil]
theorem J6s {k n:Int} {l:List TTx} (h:∀ p∈l,p.1.length≤100):(Jrm [44,32] (Jsa k n l)).length≤sumX l+606 * l.length+10:=by
 have h1:=Jtl [44,32] (Jsa k n l);have h2:=J4a (k:=k) h;have h3:sumT (Jsa k n l)≤sumT (l.map (Jtj k))+1∧(Jsa k n l).length≤l.length+1:=by
  unfold Jsa;rw [J34,List.length_append,List.length_map];split <;> simp [sumT]
 simp only [List.length_cons,List.length_nil] at h1;omega
theorem J9m (n:Nat) (hn2:n<10000) (H:Jyc n):Jyc (n+1):=by
 intro t nm ho h9 hf hn;obtain ⟨k,s,g,c,kids⟩:=t;have hkn:kids.enc.length≤n:=by rw [Jqi,List.length_cons] at hn;omega
 obtain ⟨h1,h2,_,h3⟩:=Jsv.1 ho;have hf':=hf;rw [fitQ] at hf';obtain ⟨⟨f1,_⟩,f2⟩:=hf';simp only [RT.kind] at h9;have hq:=Jwr kids f2;have hql:=Jyp kids;have hle:=Jq9 kids;have hll:=Jrb kids;have hE:=J14 ((RT.mk k s g c kids).enc nm);have hIt:=J11 nm k s g c kids omg;have hg0:(rowL ((RT.mk k s g c kids).enc nm))[0]? = some [.int .i64 k,.int .i64 kids.len,.str nm,.str s,.int .i64 g,.int .i64 c.kind,.int .i64 c.many,.str c.name,.str c.s,.bool c.neg,.int .i64 c.e]:=by rw [Jqi];rfl
 rw [J2g];by_cases k1:k=1
 ·subst k1;obtain ⟨a1,a2⟩:=J7v h3 h2.1;unfold Jqu at h1;rw [if_neg omg,if_pos rfl] at h1;have hS:=Kai nm s g c kids omg a1 h1.2.1 h1.2.2.1 a2 f2;have hJ:=J18 [] [44,32] sm (by simp [Jrm]);rw [show Jrm [44,32] ([]:List (List UInt8))=[] from rfl,show Jqr []=[] from rfl] at hJ;rw [if_pos rfl] at hIt;generalize rowL ((RT.mk 1 s g c kids).enc nm)=rows at *
  rw [show Ju4 1 s g (Jqs kids) (Jqq kids.list)=Ju6 g.toNat (Jqq kids.list) by unfold Ju4;rw [if_neg omg,if_pos rfl]];generalize Ju6 g.toNat (Jqq kids.list)=res at *
  (refine bgo Tryz.func16 ?_;simp only [go_sem,simprocAttr]);(repeat' (first | ((refine Jqa (hE) ?_);simp only [go_sem,simprocAttr]) | fail));(refine SWP.range ([]) 110 [] sm _ _ _ _ _ (fun i R=>R=[(1000,.var 26 [.p .snil]),(1001,.var 29 [.p (.sl rows)])]) (fun _ _=>False) (by rfl) (by rfl) (by rfl) (hIt) (by simp only [go_sem,simprocAttr] <;> rfl) (by first | rfl | simp [Cg]) sm ?hps (by simp only [go_sem,simprocAttr] <;> rfl) (by simp only [go_sem,simprocAttr] <;> rfl) (by simp only [go_sem,simprocAttr] <;> rfl) ?h0 ?hkI ?hkS ?hSn ?round ?done ?stop)
  case hps=>exact fun x hx=>by cases hx
  case h0=>rfl
  case hkI=>rintro i R rfl;simp [Hg,findKey]
  case hkS=>exact fun _ _ h=>h.elim
  case hSn=>exact fun _ h=>h
  case stop=>exact fun _ _ h=>h.elim
  case round=>rintro i x R l hx rfl;simp at hx
  case done =>
   rintro R rfl;simp only [go_sem,simprocAttr];refine ⟨⟨Ba 110 [(1,.ptr 1 0 0),(3,.ptr 3 0 0)],[(3,.var 26 [.p (.sl [])]),(1,.var 29 [.p (.sl rows)])]⟩,Jqc,?_⟩;simp only [go_sem,simprocAttr,hg0];(repeat' (first | ((first | (refine Jqa (hJ) ?_)|(refine Jqa (hS) ?_));simp only [go_sem,simprocAttr,hg0]) | fail))
 rw [if_neg k1] at hIt;have hd1:((RT.mk k s g c kids).enc nm).drop 1=kids.enc:=by rw [Jqi];rfl
 have h9k:∀ p∈kids.list,p.2.kind≠9:=fun p hp h=>k1 ((h2.1 p hp).1.1 h)
 rw [Jzx k1];have hil:=J6s (k:=k) (n:=g) hq.1;generalize hvv:(RT.mk k s g c kids).enc nm=v at *
 (refine bgo Tryz.func16 ?_;simp only [go_sem,simprocAttr]);(repeat' (first | ((refine Jqa (hE) ?_);simp only [go_sem,simprocAttr]) | fail));(refine SWP.range (Jro 1 kids) 110 [(37,900)] sm _ _ _ _ _ (fun i R=>R=if i=0 then [(1000,.var 26 [.p .snil]),(1001,.var 29 [.p (.sl (rowL v))])] else [(900,.row 9 1 (Jrc k ((Jqs kids).take i))),(1000,.var 26 [.own 900 0 i]),(1001,.var 29 [.p (.sl (rowL v))])]) (fun _ _=>False) (by rfl) (by rfl) (by rfl) (hIt) (by simp only [go_sem,simprocAttr] <;> rfl) (by first | rfl | simp [Cg]) sm ?hps (by simp only [go_sem,simprocAttr] <;> rfl) (by simp only [go_sem,simprocAttr] <;> rfl) (by simp only [go_sem,simprocAttr] <;> rfl) ?h0 ?hkI ?hkS ?hSn ?round ?done ?stop)
 case hps=>exact fun x hx=>Ju7 hx
 case h0=>rfl
 case hkI=>rintro i R rfl;split <;> simp [Hg,findKey]
 case hkS=>exact fun _ _ h=>h.elim
 case hSn=>exact fun _ h=>h
 case stop=>exact fun _ _ h=>h.elim
 case round =>
  rintro i x R l hx rfl;obtain ⟨p,b,hp,hd,rfl⟩:=Juz hx;have hpm:=List.mem_of_getElem? hp;have hgq:=J5d hp;have hilt:=(List.getElem?_eq_some_iff.1 hp).1;obtain ⟨f3,f4⟩:=J0v f2 hpm;have hdv:v.drop (1+offR kids.list i)=p.2.enc p.1 ++ b:=by rw [← List.drop_drop,hd1,hd]
  have hel:=Jzi hpm;have hT:=H p.2 p.1 (Jv1.1 h3 p hpm) (h9k p hpm) f4 omg;have hsl2:((rowL v).drop (1+offR kids.list i)).take (1+offR kids.list i+(p.2.enc p.1).length - (1+offR kids.list i))=rowL (p.2.enc p.1):=by rw [Nat.add_sub_cancel_left,Jve hdv]
  have hgx:∃ (k' m':Int) (s':List UInt8) (n':Int) (c':Node),(rowL v)[1+offR kids.list i]? = some [.int .i64 k',.int .i64 m',.str p.1,.str s',.int .i64 n',.int .i64 c'.kind,.int .i64 c'.many,.str c'.name,.str c'.s,.bool c'.neg,.int .i64 c'.e]:=by
   obtain ⟨nm',⟨k',s',n',c',kids'⟩⟩:=p;rw [Jqi,List.cons_append] at hdv;have:=Jrr hdv;rw [Jrd] at this;exact ⟨_,_,_,_,_,this⟩
  obtain ⟨k',m',s',n',c',hgx⟩:=hgx;have hlen:=congrArg List.length hdv;rw [List.length_append,List.length_drop] at hlen;have hpp:=Jr1 p.2 p.1;have htk:=J10 (k:=k) hgq;have hz:=J38 p.2 f4 p.1;have hz2:(Js5 p.2).length≤21000000:=by omega
  have b3:=J9j p.1;by_cases hk2:k=2
  ·have e2:=eq_true hk2;have ho1:Jtj k (p.1,Js5 p.2)=nmT p.1 ++ [58,32] ++ Js5 p.2:=if_pos hk2;rw [ho1] at htk;have hTx:Det cx 29 [.p (.sl [[.bool false,.str p.1,.int .i64 0]])] [] (.p (.str (46 :: nmT p.1))) []:=by
    rw [← J41];exact Ui [⟨false,p.1,0⟩] sm (by intro x hx;simp only [List.mem_singleton] at hx;subst hx;unfold Bc;rw [if_neg sm];exact ⟨rfl,(h2.1 p hpm).2.2 hk2⟩) (by intro x hx;simp only [List.mem_singleton] at hx;subst hx;show p.1.length≤1000;omega)
   generalize nmT p.1=y at *
   generalize Js5 p.2=z at *
   by_cases h0:i=0
   ·subst h0;rw [if_pos rfl];simp only [go_sem,simprocAttr];(refine lws ?_;simp only [go_sem,simprocAttr,hsl2,Jqb]);(repeat' (first | (refine And.intro (by simp only [List.length_append,List.length_cons,List.length_nil];omega) ?_)|(refine And.intro (Jre _) ?_)|(refine Jqd ?_)|((first | (refine Jqa (hT) ?_)|(refine Jqa (hTx) ?_));simp only [go_sem,simprocAttr,hg0,hg0,hgx,e2]) | fail));refine ⟨by simp,_,rfl,?_⟩;rw [htk,show Jrc k ((Jqs kids).take 0)=[] from rfl];exact (Jqp (by simp only [Ar]) (by simp (disch:=omega) [Az,A3,Aw,Am,Af,Ai,Au,Aa]) (by simp [Ay]))
   ·rw [if_neg h0];simp only [go_sem,simprocAttr];(refine lws ?_;simp only [go_sem,simprocAttr,hsl2,Jqb]);(repeat' (first | (refine And.intro (by simp only [List.length_append,List.length_cons,List.length_nil];omega) ?_)|(refine And.intro (Jre _) ?_)|(refine Jqd ?_)|((first | (refine Jqa (hT) ?_)|(refine Jqa (hTx) ?_));simp only [go_sem,simprocAttr,hg0,hg0,hgx,e2]) | fail));refine ⟨by simp,by rw [Ju3,List.length_take];omega,by omega,by omega,_,rfl,?_⟩;rw [htk];exact (Jqp (by simp only [Ar]) (by simp (disch:=omega) [Az,A3,Aw,Am,Af,Ai,Au,Aa]) (by simp [Ay]))
  ·have e2:=eq_false hk2;have ho1:Jtj k (p.1,Js5 p.2)=Js5 p.2:=if_neg hk2;rw [ho1] at htk;generalize Js5 p.2=z at *
   by_cases h0:i=0
   ·subst h0;rw [if_pos rfl];simp only [go_sem,simprocAttr];(refine lws ?_;simp only [go_sem,simprocAttr,hsl2,Jqb]);(repeat' (first | (refine And.intro (Jre _) ?_)|(refine Jqd ?_)|((refine Jqa (hT) ?_);simp only [go_sem,simprocAttr,hg0,hg0,e2]) | fail));refine ⟨by simp,_,rfl,?_⟩;rw [htk,show Jrc k ((Jqs kids).take 0)=[] from rfl];exact (Jqp (by simp only [Ar]) (by simp (disch:=omega) [Az,A3,Aw,Am,Af,Ai,Au,Aa]) (by simp [Ay]))
   ·rw [if_neg h0];simp only [go_sem,simprocAttr];(refine lws ?_;simp only [go_sem,simprocAttr,hsl2,Jqb]);(repeat' (first | (refine And.intro (Jre _) ?_)|(refine Jqd ?_)|((refine Jqa (hT) ?_);simp only [go_sem,simprocAttr,hg0,hg0,e2]) | fail));refine ⟨by simp,by rw [Ju3,List.length_take];omega,by omega,by omega,_,rfl,?_⟩;rw [htk];exact (Jqp (by simp only [Ar]) (by simp (disch:=omega) [Az,A3,Aw,Am,Af,Ai,Au,Aa]) (by simp [Ay]))
 case done =>
  rintro R rfl;rw [Js2];have hJ:=J18 (Jsa k g (Jqs kids)) [44,32] (by unfold Jsa;rw [List.length_append,List.length_map];split <;> simp <;> omega) omg;have hjl:(Jrm [44,32] (Jsa k g (Jqs kids))).length≤21000000:=by rw [hql] at hil;omega
  have hkk:k=0∨k=2∨k=3∨k=4∨k=5∨k=6∨k=7∨k=8:=by
   unfold Jqu at h1;by_cases hx:k=0∨k=2∨k=3∨k=4∨k=5∨k=6∨k=7∨k=8
   ·exact hx
   ·rw [if_neg omg,if_neg k1,if_neg h9,if_neg omg,if_neg omg,if_neg omg,if_neg omg] at h1;exact h1.elim
  have hpl:∀ k,(Jrc k (Jqs kids)).length=kids.len:=fun k=>by rw [Ju3,hql]
  clear hIt hE ho h1 h2 h3 hf hq hd1 h9k hil H;by_cases hop:k=2∧g=1
  ·obtain ⟨rfl,rfl⟩:=hop;have hit:Jqr (Jsa 2 1 (Jqs kids))=Jrc 2 (Jqs kids) ++ [[PV.str [63]]]:=by unfold Jsa Jrc;rw [if_pos ⟨rfl,rfl⟩,Jtm]
   rw [hit] at hJ;generalize Jrm [44,32] (Jsa 2 1 (Jqs kids))=x at *
   by_cases hk:kids.len=0
   ·rw [if_pos hk];have hnil:Jqs kids=[]:=List.eq_nil_of_length_eq_zero omg;rw [hnil,show Jrc 2 []=[] from rfl,List.nil_append] at hJ;simp only [go_sem,simprocAttr];refine ⟨_,St.Le.refl _,?_⟩;simp only [go_sem,simprocAttr,hg0];(repeat' (first | (refine And.intro (by intro q hq;simp at hq;subst hq;rfl) ?_)|(refine Jqd ?_)|((refine Jqa (hJ) ?_);simp only [go_sem,simprocAttr,hg0]) | fail))
    all_goals (first | rfl | omega | (simp only [List.length_append,List.length_cons,List.length_nil];omega) | simp [Jrh,Jr9,Jsk])
   ·rw [if_neg hk];have htk:(Jqs kids).take kids.len=Jqs kids:=List.take_of_length_le omg;rw [htk];have hpl2:=hpl 2;have hlx:(Jrc 2 (Jqs kids) ++ [[PV.str [63]]]).length=kids.len+1:=by rw [List.length_append,hpl2];rfl
    have hle1:(kids.len≤kids.len)=True:=eq_true (Nat.le_refl _);have hle2:(kids.len+1≤kids.len+1)=True:=eq_true (Nat.le_refl _);have htk2:List.take (kids.len+1) (Jrc 2 (Jqs kids) ++ [[PV.str [63]]])=Jrc 2 (Jqs kids) ++ [[PV.str [63]]]:=List.take_of_length_le omg;generalize Jrc 2 (Jqs kids)=ws at *
    simp only [go_sem,simprocAttr];refine ⟨_,St.Le.refl _,?_⟩;simp only [go_sem,simprocAttr,hg0,hpl2,hlx,hle2,htk2];(repeat' (first | (refine And.intro (by intro q hq;simp at hq;subst hq;rfl) ?_)|(refine Jqd ?_)|((refine Jqa (hJ) ?_);simp only [go_sem,simprocAttr,hg0]) | fail))
    all_goals (first | rfl | omega | (simp only [List.length_append,List.length_cons,List.length_nil];omega) | simp [Jrh,Jr9,Jsk])
  have hit:Jqr (Jsa k g (Jqs kids))=Jrc k (Jqs kids):=by unfold Jsa Jrc;rw [if_neg hop,List.append_nil]
  rw [hit] at hJ;generalize Jrm [44,32] (Jsa k g (Jqs kids))=x at *
  have hg2:k=2→(g=1)=False:=fun h=>eq_false fun h'=>hop ⟨h,h'⟩
  by_cases hk:kids.len=0
  ·rw [if_pos hk];have hnil:Jqs kids=[]:=List.eq_nil_of_length_eq_zero omg;rw [hnil,show Jrc k []=[] from rfl] at hJ;simp only [go_sem,simprocAttr];refine ⟨⟨Ba 110 [(1,.ptr 1 0 0),(3,.ptr 3 0 0)],[(3,.var 26 [.p (.sl [])]),(1,.var 29 [.p (.sl (rowL v))])]⟩,Jqc,?_⟩;rcases hkk with rfl | rfl | rfl | rfl | rfl | rfl | rfl | rfl
   ·simp only [go_sem,simprocAttr,hg0,hg0];(repeat' (first | ((refine Jqa (hJ) ?_);simp only [go_sem,simprocAttr,hg0,hg0]) | fail))
    all_goals (first | rfl | omega | (simp only [List.length_append,List.length_cons,List.length_nil];omega) | simp [Jrh,Jr9,Jsk])
   ·have e1:=hg2 rfl;simp only [go_sem,simprocAttr,hg0,hg0,e1];(repeat' (first | (refine Jqd ?_)|((refine Jqa (hJ) ?_);simp only [go_sem,simprocAttr,hg0,hg0]) | fail))
    all_goals (first | rfl | omega | (simp only [List.length_append,List.length_cons,List.length_nil];omega) | simp [Jrh,Jr9,Jsk])
   ·simp only [go_sem,simprocAttr,hg0,hg0];(repeat' (first | (refine Jqd ?_)|((refine Jqa (hJ) ?_);simp only [go_sem,simprocAttr,hg0,hg0]) | fail))
    all_goals (first | rfl | omega | (simp only [List.length_append,List.length_cons,List.length_nil];omega) | simp [Jrh,Jr9,Jsk])
   ·simp only [go_sem,simprocAttr,hg0,hg0];(repeat' (first | (refine Jqd ?_)|((refine Jqa (hJ) ?_);simp only [go_sem,simprocAttr,hg0,hg0]) | fail))
    all_goals (first | rfl | omega | (simp only [List.length_append,List.length_cons,List.length_nil];omega) | simp [Jrh,Jr9,Jsk])
   ·simp only [go_sem,simprocAttr,hg0,hg0];(repeat' (first | (refine Jqd ?_)|((refine Jqa (hJ) ?_);simp only [go_sem,simprocAttr,hg0,hg0]) | fail))
    all_goals (first | rfl | omega | (simp only [List.length_append,List.length_cons,List.length_nil];omega) | simp [Jrh,Jr9,Jsk])
   ·simp only [go_sem,simprocAttr,hg0,hg0];(repeat' (first | (refine Jqd ?_)|((refine Jqa (hJ) ?_);simp only [go_sem,simprocAttr,hg0,hg0]) | fail))
    all_goals (first | rfl | omega | (simp only [List.length_append,List.length_cons,List.length_nil];omega) | simp [Jrh,Jr9,Jsk])
   ·simp only [go_sem,simprocAttr,hg0,hg0];(repeat' (first | (refine And.intro (by simp only [List.length_append,List.length_cons,List.length_nil];omega) ?_)|(refine Jqd ?_)|((refine Jqa (hJ) ?_);simp only [go_sem,simprocAttr,hg0,hg0]) | fail))
    all_goals (first | rfl | omega | (simp only [List.length_append,List.length_cons,List.length_nil];omega) | simp [Jrh,Jr9,Jsk])
   ·simp only [go_sem,simprocAttr,hg0,hg0];(repeat' (first | (refine And.intro (by simp only [List.length_append,List.length_cons,List.length_nil];omega) ?_)|(refine Jqd ?_)|((refine Jqa (hJ) ?_);simp only [go_sem,simprocAttr,hg0,hg0]) | fail))
    all_goals (first | rfl | omega | (simp only [List.length_append,List.length_cons,List.length_nil];omega) | simp [Jrh,Jr9,Jsk])
  ·rw [if_neg hk];have htk:(Jqs kids).take kids.len=Jqs kids:=List.take_of_length_le omg;rw [htk];have hpl2:=hpl k;have hle1:(kids.len≤kids.len)=True:=eq_true (Nat.le_refl _);have htk2:List.take kids.len (Jrc k (Jqs kids))=Jrc k (Jqs kids):=List.take_of_length_le omg;generalize Jrc k (Jqs kids)=ws at *
   simp only [go_sem,simprocAttr];refine ⟨_,St.Le.refl _,?_⟩;rcases hkk with rfl | rfl | rfl | rfl | rfl | rfl | rfl | rfl
   ·simp only [go_sem,simprocAttr,hg0,hpl2,hle1,htk2,hg0,hpl2,hle1,htk2];(repeat' (first | ((refine Jqa (hJ) ?_);simp only [go_sem,simprocAttr,hg0,hg0]) | fail))
    all_goals (first | rfl | omega | (simp only [List.length_append,List.length_cons,List.length_nil];omega) | simp [Jrh,Jr9,Jsk])
   ·have e1:=hg2 rfl;simp only [go_sem,simprocAttr,hg0,hpl2,hle1,htk2,hg0,e1,hpl2,hle1,htk2];(repeat' (first | (refine Jqd ?_)|((refine Jqa (hJ) ?_);simp only [go_sem,simprocAttr,hg0,hg0]) | fail))
    all_goals (first | rfl | omega | (simp only [List.length_append,List.length_cons,List.length_nil];omega) | simp [Jrh,Jr9,Jsk])
   ·simp only [go_sem,simprocAttr,hg0,hpl2,hle1,htk2,hg0,hpl2,hle1,htk2];(repeat' (first | (refine Jqd ?_)|((refine Jqa (hJ) ?_);simp only [go_sem,simprocAttr,hg0,hg0]) | fail))
    all_goals (first | rfl | omega | (simp only [List.length_append,List.length_cons,List.length_nil];omega) | simp [Jrh,Jr9,Jsk])
   ·simp only [go_sem,simprocAttr,hg0,hpl2,hle1,htk2,hg0,hpl2,hle1,htk2];(repeat' (first | (refine Jqd ?_)|((refine Jqa (hJ) ?_);simp only [go_sem,simprocAttr,hg0,hg0]) | fail))
    all_goals (first | rfl | omega | (simp only [List.length_append,List.length_cons,List.length_nil];omega) | simp [Jrh,Jr9,Jsk])
   ·simp only [go_sem,simprocAttr,hg0,hpl2,hle1,htk2,hg0,hpl2,hle1,htk2];(repeat' (first | (refine Jqd ?_)|((refine Jqa (hJ) ?_);simp only [go_sem,simprocAttr,hg0,hg0]) | fail))
    all_goals (first | rfl | omega | (simp only [List.length_append,List.length_cons,List.length_nil];omega) | simp [Jrh,Jr9,Jsk])
   ·simp only [go_sem,simprocAttr,hg0,hpl2,hle1,htk2,hg0,hpl2,hle1,htk2];(repeat' (first | (refine Jqd ?_)|((refine Jqa (hJ) ?_);simp only [go_sem,simprocAttr,hg0,hg0]) | fail))
    all_goals (first | rfl | omega | (simp only [List.length_append,List.length_cons,List.length_nil];omega) | simp [Jrh,Jr9,Jsk])
   ·simp only [go_sem,simprocAttr,hg0,hpl2,hle1,htk2,hg0,hpl2,hle1,htk2];(repeat' (first | (refine And.intro (by simp only [List.length_append,List.length_cons,List.length_nil];omega) ?_)|(refine Jqd ?_)|((refine Jqa (hJ) ?_);simp only [go_sem,simprocAttr,hg0,hg0]) | fail))
    all_goals (first | rfl | omega | (simp only [List.length_append,List.length_cons,List.length_nil];omega) | simp [Jrh,Jr9,Jsk])
   ·simp only [go_sem,simprocAttr,hg0,hpl2,hle1,htk2,hg0,hpl2,hle1,htk2];(repeat' (first | (refine And.intro (by simp only [List.length_append,List.length_cons,List.length_nil];omega) ?_)|(refine Jqd ?_)|((refine Jqa (hJ) ?_);simp only [go_sem,simprocAttr,hg0,hg0]) | fail))
    all_goals (first | rfl | omega | (simp only [List.length_append,List.length_cons,List.length_nil];omega) | simp [Jrh,Jr9,Jsk])
theorem J50:∀ n,n≤10000→Jyc n
 | 0,_=>fun t nm _ _ _ h=>by have:=Jr1 t nm;omega
 | n+1,h=>J9m n omg (J50 n omg)
theorem J9c:Det cx 52 [.p .snil,.p (.int .i64 0)] [] (.p .snil) []:=by
 have w1:IntKind.i64.wrap 0=0:=by decide
 have c1:((0:Int)<0)=False:=by simp
 (refine bgo Tryz.func52 ?_;simp only [go_sem,simprocAttr,w1,c1,K9,Jjk,Hi])
 skip
theorem Kat (n:Nat) (h0:0<n) (hn:n≤1000000):Det cx 52 [.p .snil,.p (.int .i64 n)] [] (.own 900 0 0) [(900,.row 25 11 [])]:=by
 have w1:IntKind.i64.wrap 0=0:=by decide
 have c1:((0:Int)<(n:Int))=True:=eq_true omg;have w2:IntKind.i64.wrap ((n:Int) - 0)=n:=by rw [Aa omg omg];omega
 have c2:((n:Int)<0)=False:=eq_false omg;(refine bgoR true [(22,900)] Tryz.func52 ?_;simp only [go_sem,simprocAttr,w1,c1,w2,c2,K9,Jjk,Hi]);(repeat' (first | (refine Jqd ?_) | fail));omega
theorem J6w (l:List (List YRow)) (hll:l.length≤900000) (hne:∀ p∈l,p≠[]) (hv:(Jq7 l).length≤900000):Det cx 36 [.p (.sl (Jq3 l))] [] (.p (.sl (rowL (Jq7 l)))) []:=by
 have z0:(Jq7 []).length=0:=rfl;have z1:Jq7 []=[]:=rfl;(refine bgo Tryz.func36 ?_;simp only [go_sem,simprocAttr,Jrj]);refine SWP.loop (fun k:Nat=>⟨Ba 36 [(0,.p (.sl (Jq3 l))),(3,.p (.int .i64 (Jq7 (l.take k)).length)),(9,.p (.sl (Jq3 l))),(10,.p (.int .i64 l.length)),(11,.p (.int .i64 k))],[]⟩) (fun k=>k≤l.length) (fun k=>l.length - k) 0 (by simp only [List.take_zero,z0];exact Jqc) (Nat.zero_le _) ?_;intro k hk;by_cases hlt:¬ k<l.length
 ·have c1:((k:Int)<(l.length:Int))=False:=eq_false omg;have tk:l.take k=l:=List.take_of_length_le omg;have hg:=c1;have w1:=c1;have w2:=c1;have c2:=c1;by_cases hl0:l=[]
  ·subst hl0;have hG:=J9c;(refine lws ?_;simp only [go_sem,simprocAttr,tk,z0]);(repeat' (first | (apply iteI <;> intro h)|(refine J9g ?_;intro b hb)|(refine Jqd ?_)|((refine Jqa (hG) ?_);simp only [go_sem,simprocAttr,Jrj])|(exfalso;omega)));refine SWP.loop (fun i:Nat=>⟨Ba 36 [(6,.p (.sl [])),(25,.p (.sl (Jq3 []))),(26,.p (.int .i64 0)),(27,.p (.int .i64 0))],[]⟩) (fun _=>True) (fun _=>0) 0 Jqc trivial ?_;intro i _;(refine lws ?_;simp only [go_sem,simprocAttr]);rw [z1];rfl
  ·have hpos:0<(Jq7 l).length:=by
    cases l with
    | nil=>exact absurd rfl hl0
    | cons p l =>
     have h1:=hne p List.mem_cons_self;unfold Jq7;rw [List.flatMap_cons,List.length_append];have:0<p.length:=List.length_pos_iff.2 h1;simp only [id];omega
   have hG:=Kat (Jq7 l).length hpos omg;(refine lws ?_;simp only [go_sem,simprocAttr,c1,tk]);(repeat' (first | ((refine Jqa (hG) ?_);simp only [go_sem,simprocAttr,Jrj]) | fail));refine Jqn (B1 [(24,33)] _ sm) ?_;simp only [go_sem,simprocAttr];refine SWP.loop (fun k:Nat=>⟨Ba 36 [(6,.own 33 0 (Jq7 (l.take k)).length),(25,.p (.sl (Jq3 l))),(26,.p (.int .i64 l.length)),(27,.p (.int .i64 k))],[(33,.row 25 11 (rowL (Jq7 (l.take k))))]⟩) (fun k=>k≤l.length) (fun k=>l.length - k) 0 (by simp only [List.take_zero,z0,z1,J9y];exact Jqc) (Nat.zero_le _) ?_;intro j hj;by_cases hjt:¬ j<l.length
   ·have d1:((j:Int)<(l.length:Int))=False:=eq_false omg;have tj:l.take j=l:=List.take_of_length_le omg;have tv:(rowL (Jq7 l)).take (Jq7 l).length=rowL (Jq7 l):=List.take_of_length_le sm;have lv:((Jq7 l).length≤(Jq7 l).length)=True:=eq_true (Nat.le_refl _);have hg2:=d1;have w3:=d1;(refine lws ?_;simp only [go_sem,simprocAttr,Jqb,d1,tj,tv,lv])
    skip
   ·have hjt:=Decidable.not_not.1 hjt;have d1:((j:Int)<(l.length:Int))=True:=eq_true omg;obtain ⟨p,hp⟩:∃ p,l[j]? = some p:=⟨_,List.getElem?_eq_getElem hjt⟩
    have hg2:(Jq3 l)[j]? = some [.sl (rowL p)]:=by exact Jtc hp
    have hs:=J2l l (j+1);have h1:=J0p hp;rw [h1,List.length_append] at hs;have w3:=wj1 (i:=j) omg;have tj:=d1;have tv:=d1;have lv:=d1;(refine lws ?_;simp only [go_sem,simprocAttr,Jqb,d1,hg2,w3]);refine ⟨Jre _,by omega,by omega,?_⟩;refine ⟨j+1,hjt,by omega,?_⟩;rw [h1,List.length_append,Jwj];exact Jqc
 ·have hlt:=Decidable.not_not.1 hlt;have c1:((k:Int)<(l.length:Int))=True:=eq_true omg;obtain ⟨p,hp⟩:∃ p,l[k]? = some p:=⟨_,List.getElem?_eq_getElem hlt⟩
  have hg:(Jq3 l)[k]? = some [.sl (rowL p)]:=by exact Jtc hp
  have hs:=J2l l (k+1);have h1:=J0p hp;rw [h1,List.length_append] at hs;have tk:=c1;have w1:=wj1 (i:=k) omg;have w2:IntKind.i64.wrap (((Jq7 (l.take k)).length:Int)+(p.length:Int))=(((Jq7 (l.take k)).length+p.length:Nat):Int):=by rw [Aa omg omg];omega
  have c2:((((Jq7 (l.take k)).length+p.length:Nat):Int)<0)=False:=eq_false omg;have d1:=c1;have tj:=c1;have tv:=c1;have lv:=c1;have hg2:=c1;have w3:=c1;(refine lws ?_;simp only [go_sem,simprocAttr,Jqb,c1,hg,w1,w2,c2]);refine ⟨k+1,hlt,by omega,?_⟩;rw [h1,List.length_append];exact Jqc
theorem J81 (v u:List YRow) (hv:v.length≤1000000) (hu:u.length≤1000000):Det cx 35 [.p (.sl (rowL v)),.p (.sl (rowL u))] [] (.p (.bool (decide (v=u)))) []:=by
 by_cases hl:v.length=u.length
 ·have c0:((v.length:Int)=(u.length:Int))=True:=eq_true omg;(refine bgo Tryz.func35 ?_;simp only [go_sem,simprocAttr,Jqb,c0,not_true_eq_false]);refine SWP.loop (fun i:Nat=>⟨Ba 26 [(0,.p (.sl (rowL v))),(1,.p (.sl (rowL u))),(11,.p (.sl (rowL v))),(12,.p (.int .i64 v.length)),(13,.p (.int .i64 i))],[]⟩) (fun i=>i≤v.length∧v.take i=u.take i) (fun i=>v.length - i) 0 Jqc ⟨Nat.zero_le _,rfl⟩ ?_;rintro i ⟨h1,h3⟩;by_cases hi:¬ i<v.length
  ·have c1:((i:Int)<(v.length:Int))=False:=eq_false omg;(refine lws ?_;simp only [go_sem,simprocAttr,decide_false,c1]);rw [List.take_of_length_le omg,List.take_of_length_le omg] at h3;exact (decide_eq_true h3).symm
  ·have hi:=Decidable.not_not.1 hi;have c1:((i:Int)<(v.length:Int))=True:=eq_true omg;obtain ⟨x,hx⟩:∃ x,v[i]? = some x:=⟨_,List.getElem?_eq_getElem hi⟩
   obtain ⟨y,hy⟩:∃ y,u[i]? = some y:=⟨_,List.getElem?_eq_getElem omg⟩
   have hgx:=Jwb hx;have hgy:=Jwb hy;have w1:=wi1 (i:=i) omg;(refine lws ?_;simp only [go_sem,simprocAttr,c1]);(repeat' (first | (apply iteI <;> intro h)|((refine Jql ?_);simp only [go_sem,simprocAttr,rowB,hgx,hgy,w1]) | fail))
   ·have hxy:=(show ¬ x=y by assumption)
    refine (decide_eq_false fun e=>hxy ?_).symm;subst e;rw [hx] at hy;exact Option.some.inj hy
   ·have hxy:=Decidable.not_not.1 (show ¬ ¬ x=y by assumption);subst hxy;refine ⟨i+1,⟨by omega,?_⟩,by omega,Jqc⟩;rw [List.take_add_one,List.take_add_one,h3,hx,hy]
 ·have c0:((v.length:Int)=(u.length:Int))=False:=eq_false omg;(refine bgo Tryz.func35 ?_;simp only [go_sem,simprocAttr,Jqb,c0,not_false_eq_true]);exact (decide_eq_false fun e=>hl (by rw [e])).symm
theorem J95 (v u:List YRow) (hv:v.length≤1000000) (hu:u.length≤1000000):Det cx 21 [.p (.sl (rowL v)),.p (.sl (rowL u))] [] (.p (.bool (decide (v=u)))) []:=by
 have hE:=J81 v u hv hu;(refine bgo Tryz.func21 ?_;simp only [go_sem,simprocAttr]);(repeat' (first | ((refine Jqa (hE) ?_);simp only [go_sem,simprocAttr]) | fail))
theorem J94 (y:YRow) (l:List (List YRow)) (hll:l.length≤900000) (hne:∀ p∈l,p≠[]) (hv:(Jq7 l).length≤900000):Det cx 23 [.p (.agg [.int .i64 y.kind,.int .i64 y.many,.str y.name,.str y.s,.int .i64 y.n,.int .i64 y.c.kind,.int .i64 y.c.many,.str y.c.name,.str y.c.s,.bool y.c.neg,.int .i64 y.c.e]),.p (.sl (Jq3 l))] [] (.p (.sl (rowL (y :: Jq7 l)))) []:=by
 have hC:=J6w l hll hne hv;have h6:=Jre (Jq7 l);have hrl:(rowL (Jq7 l)).length=(Jq7 l).length:=Jqb _;rw [Jsy,J5k];generalize rowL (Jq7 l)=rows at *
 (refine bgo Tryz.func23 ?_;simp only [go_sem,simprocAttr]);refine Je9 (.node 0 (.node 1 (.node 2 (.node 3 (.node 4 (.node 5 .leaf .nil) .nil) .nil) .nil) (.node 2 (.node 1 (.node 3 (.node 4 (.node 5 .leaf .nil) .nil) .nil) (.node 3 (.node 1 (.node 4 (.node 5 .leaf .nil) .nil) .nil) .nil)) .nil)) (.node 2 (.node 0 (.node 1 (.node 3 (.node 4 (.node 5 .leaf .nil) .nil) .nil) (.node 3 (.node 1 (.node 4 (.node 5 .leaf .nil) .nil) .nil) .nil)) (.node 3 (.node 0 (.node 1 (.node 4 (.node 5 .leaf .nil) .nil) .nil) .nil) .nil)) .nil)) ⟨Ba 10 [(2,.ptr 2 0 0),(4,.own 9 0 (1+(Jq7 l).length))],[(9,.row 25 11 ([.int .i64 y.kind,.int .i64 y.many,.str y.name,.str y.s,.int .i64 y.n,.int .i64 y.c.kind,.int .i64 y.c.many,.str y.c.name,.str y.c.s,.bool y.c.neg,.int .i64 y.c.e] :: rows)),(2,.var 25 [.p (.int .i64 y.kind),.p (.int .i64 y.many),.p (.str y.name),.p (.str y.s),.p (.int .i64 y.n),.p (.int .i64 y.c.kind),.p (.int .i64 y.c.many),.p (.str y.c.name),.p (.str y.c.s),.p (.bool y.c.neg),.p (.int .i64 y.c.e)])]⟩ hm krf ?_ ?_
 ·simp (maxSteps:=100000000) only [go_sem,simprocAttr,hrl];(repeat' apply And.intro)
  all_goals (repeat' (first | (refine Jqa hC ?_;simp (maxSteps:=100000000) only [go_sem,simprocAttr,hrl])|(apply And.intro) | fail))
  all_goals first
   | exact trivial
   | exact h6
   | omega
   | (intro q hq;simp only [List.mem_cons,List.not_mem_nil,or_false] at hq;subst hq;rfl)
   | (show St.Le _ _;exact Jqc)
 ·have hp1:(1+(Jq7 l).length≤(Jq7 l).length+1)=True:=eq_true omg;have ht:List.take (1+(Jq7 l).length) ([.int .i64 y.kind,.int .i64 y.many,.str y.name,.str y.s,.int .i64 y.n,.int .i64 y.c.kind,.int .i64 y.c.many,.str y.c.name,.str y.c.s,.bool y.c.neg,.int .i64 y.c.e] :: rows)=[.int .i64 y.kind,.int .i64 y.many,.str y.name,.str y.s,.int .i64 y.n,.int .i64 y.c.kind,.int .i64 y.c.many,.str y.c.name,.str y.c.s,.bool y.c.neg,.int .i64 y.c.e] :: rows:=List.take_of_length_le (by rw [List.length_cons];omega);simp only [go_sem,simprocAttr,hrl,hp1,ht,hrl]
def Jr5 (ns:List (List UInt8)) (ls:List (List YRow)) (k:Nat):List (List YRow):=(List.range k).map (Jux ns ls)
theorem Juv (ns:List (List UInt8)) (ls:List (List YRow)) (k:Nat):Jr5 ns ls (k+1)=Jr5 ns ls k ++ [Jux ns ls k]:=by simp [Jr5,List.range_succ]
theorem Jyv (ns:List (List UInt8)) (ls:List (List YRow)) (k:Nat):(Jr5 ns ls k).length=k:=by simp [Jr5]
theorem Ju0 (ns:List (List UInt8)) (ls:List (List YRow)):∀ k,Jq7 (Jr5 ns ls k)=Jq1 ns ls k
 | 0=>rfl
 | k+1=>by
  rw [Juv,Jq1,← Ju0 ns ls k];simp [Jq7]
theorem Jxd (l:List (List YRow)) (v:List YRow):Jq3 (l ++ [v])=Jq3 l ++ [[.sl (rowL v)]]:=by simp [Jq3]
theorem J7f {ns:List (List UInt8)} {ls:List (List YRow)} (hne:∀ v∈ls,v≠[]) {k:Nat} (hk:k≤ls.length):∀ v∈Jr5 ns ls k,v≠[]:=by
 intro v hv;obtain ⟨i,hi,rfl⟩:=List.mem_map.1 hv;have hi:=List.mem_range.1 hi;have hx:ls[i]? = some ls[i]:=List.getElem?_eq_getElem omg;have h1:=hne ls[i] (List.getElem_mem omg);intro h;have h2:=congrArg List.length h;rw [J0j,List.getD_eq_getElem?_getD,hx] at h2;exact h1 (List.eq_nil_of_length_eq_zero h2)
theorem J27 (y:YRow) (ns:List (List UInt8)) (ls:List (List YRow)) (hl:ls.length≤10000) (hn:ns.length≤10000) (hne:∀ v∈ls,v≠[]) (he:∀ v∈ls,v.length≤900000) (hs:(Jq1 ns ls ls.length).length≤900000):Det cx 8 [.p (.agg [.int .i64 y.kind,.int .i64 y.many,.str y.name,.str y.s,.int .i64 y.n,.int .i64 y.c.kind,.int .i64 y.c.many,.str y.c.name,.str y.c.s,.bool y.c.neg,.int .i64 y.c.e]),.p (.sl (Jqr ns)),.p (.sl (Jq3 ls))] [] (.p (.sl (rowL (Jvk y ns ls)))) []:=by
 have hL:=J94 ⟨y.kind,ls.length,y.name,y.s,y.n,y.c⟩ (Jr5 ns ls ls.length) (by rw [Jyv];omega) (J7f hne (Nat.le_refl _)) (by rw [Ju0];exact hs);rw [Ju0] at hL;simp only at hL;rw [show Jvk y ns ls=⟨y.kind,ls.length,y.name,y.s,y.n,y.c⟩ :: Jq1 ns ls ls.length from rfl];generalize rowL (⟨y.kind,ls.length,y.name,y.s,y.n,y.c⟩ :: Jq1 ns ls ls.length)=res at *
 (refine bgo Tryz.func8 ?_;simp only [go_sem,simprocAttr,Jrj]);refine Jqn (Jsz _ (i:=7) (d:=36) 29 1 (.inl de) rfl) ?_;simp only [St.nilOwn,St.nilReg,go_sem,simprocAttr,Jrj,Jrs];refine SWP.loop (fun k:Nat=>⟨Ba 41 [(1,.p (.sl (Jqr ns))),(3,.ptr 3 0 0),(7,.own 36 0 k),(13,.p (.sl (Jq3 ls))),(14,.p (.int .i64 ls.length)),(15,.p (.int .i64 k))],[(36,.row 29 1 (Jq3 (Jr5 ns ls k))),(3,.var 25 [.p (.int .i64 y.kind),.p (.int .i64 ls.length),.p (.str y.name),.p (.str y.s),.p (.int .i64 y.n),.p (.int .i64 y.c.kind),.p (.int .i64 y.c.many),.p (.str y.c.name),.p (.str y.c.s),.p (.bool y.c.neg),.p (.int .i64 y.c.e)])]⟩) (fun k=>k≤ls.length) (fun k=>ls.length - k) 0 (by rw [show Jq3 (Jr5 ns ls 0)=[] from rfl];exact Jqc) (Nat.zero_le _) ?_;intro k hk;have hpl:(Jq3 (Jr5 ns ls k)).length=k:=by rw [Jrj,Jyv]
 by_cases hlt:k<ls.length
 ·have c1:((k:Int)<(ls.length:Int))=True:=eq_true omg;obtain ⟨v,hq⟩:∃ v,ls[k]? = some v:=⟨_,List.getElem?_eq_getElem hlt⟩
  have hg:=Jtc hq;have hv:=he v (List.mem_of_getElem? hq);have hvn:=hne v (List.mem_of_getElem? hq);obtain ⟨r,rs,rfl⟩:=List.exists_cons_of_ne_nil hvn;rw [List.length_cons] at hv;rw [Jsy,J5k] at hg;have h6:∀ q∈[.int .i64 r.kind,.int .i64 r.many,.str r.name,.str r.s,.int .i64 r.n,.int .i64 r.c.kind,.int .i64 r.c.many,.str r.c.name,.str r.c.s,.bool r.c.neg,.int .i64 r.c.e] :: rowL rs,q.length=11:=by
   intro q hq;rcases List.mem_cons.1 hq with rfl | hq
   ·rfl
   ·exact Jre rs q hq
  have hC:=Jyf _ (rowL rs) h6 (by rw [Jqb];omega);rw [Jqb] at hC;have htk:List.take rs.length (rowL rs)=rowL rs:=List.take_of_length_le (by rw [Jqb];omega);have hrl:(rowL rs).length=rs.length:=Jqb _;have w1:=wj1 (i:=k) omg;have hle:(rs.length≤rs.length)=True:=eq_true (Nat.le_refl _);have hd:ls.getD k []=r :: rs:=by rw [List.getD_eq_getElem?_getD,hq];rfl
  by_cases hkn:k<ns.length
  ·have c2:((k:Int)<(ns.length:Int))=True:=eq_true omg;obtain ⟨nm,hnm⟩:∃ nm,ns[k]? = some nm:=⟨_,List.getElem?_eq_getElem hkn⟩
   have hgn:=Jvw hnm;have hp:Jux ns ls k=⟨r.kind,r.many,nm,r.s,r.n,r.c⟩ :: rs:=by
    unfold Jux;rw [if_pos hkn,hd,List.getD_eq_getElem?_getD,hnm];rfl
   have hx:Jq3 (Jr5 ns ls (k+1))=Jq3 (Jr5 ns ls k) ++ [[.sl ([.int .i64 r.kind,.int .i64 r.many,.str nm,.str r.s,.int .i64 r.n,.int .i64 r.c.kind,.int .i64 r.c.many,.str r.c.name,.str r.c.s,.bool r.c.neg,.int .i64 r.c.e] :: rowL rs)]]:=by rw [Juv,Jxd,hp,Jsy];rfl
   (refine lws ?_;simp only [go_sem,simprocAttr,c1,hg]);(repeat' (first | (refine Jqd ?_)|((refine Jqa (hC) ?_);simp only [go_sem,simprocAttr,Jrs,c2,hgn,hpl,hrl,htk,hle,w1]) | fail));refine ⟨by simp,by omega,by omega,k+1,by omega,by omega,?_⟩;rw [hx];exact Jqc
  ·have c2:((k:Int)<(ns.length:Int))=False:=eq_false omg;have hp:Jux ns ls k=r :: rs:=by
    unfold Jux;rw [if_neg hkn,hd]
   have hx:Jq3 (Jr5 ns ls (k+1))=Jq3 (Jr5 ns ls k) ++ [[.sl ([.int .i64 r.kind,.int .i64 r.many,.str r.name,.str r.s,.int .i64 r.n,.int .i64 r.c.kind,.int .i64 r.c.many,.str r.c.name,.str r.c.s,.bool r.c.neg,.int .i64 r.c.e] :: rowL rs)]]:=by rw [Juv,Jxd,hp,Jsy];rfl
   (refine lws ?_;simp only [go_sem,simprocAttr,c1,hg]);(repeat' (first | ((refine Jqa (hC) ?_);simp only [go_sem,simprocAttr,Jrs,c2,hpl,hrl,htk,hle,w1]) | fail));refine ⟨by simp,by omega,by omega,k+1,by omega,by omega,?_⟩;rw [hx];exact Jqc
 ·obtain rfl:k=ls.length:=by omega
  have c1:((ls.length:Int)<(ls.length:Int))=False:=eq_false omg;have hle:(ls.length≤ls.length)=True:=eq_true (Nat.le_refl _);have htk:List.take ls.length (Jq3 (Jr5 ns ls ls.length))=Jq3 (Jr5 ns ls ls.length):=List.take_of_length_le omg;(refine lws ?_;simp only [go_sem,simprocAttr,c1,hpl,hle,htk]);(repeat' (first | ((refine Jqa (hL) ?_);simp only [go_sem,simprocAttr]) | fail))
theorem row_n {k:Int} {s:List UInt8} {n:Int} {c:Node} {m:Int} (h:Jqu k s n c m):0≤n∧n≤1000000:=by
 unfold Jqu at h
 repeat' split at h
 all_goals first
  | exact h.elim
  | (have h1:=h.2.2.1;omega)
  | (have h1:=h.2.1;have h2:=h.2.2.1;omega)
  | (have h1:=h.2.1;omega)
  | (have h1:=h.2.2.1;omega)
  | (have h1:=h.2.2.1;omega)
  | (have h1:=h.2.2;unfold Jrg at h1;omega)
mutual
theorem J59:∀ (t:RT) (nm:List UInt8),okR t→(∀ r∈t.enc nm,Jtp r)→fitQ t
 | .mk k s n c kids,nm,ho,h=>by
  obtain ⟨h1,h2,_,h3⟩:=Jsv.1 ho;rw [Jqi] at h;obtain ⟨a,b,d,e,f⟩:=h _ List.mem_cons_self;have hn:=row_n h1;rw [fitQ];exact ⟨⟨a,d,by omega,by omega,e,f⟩,J30 kids h3 fun r hr=>h r (List.mem_cons_of_mem _ hr)⟩
theorem J30:∀ (f:RF),okRF f→(∀ r∈f.enc,Jtp r)→Jug f
 | .nil,_,_=>by rw [Jug];trivial
 | .cons nm t r,ho,h=>by
  rw [Jrv] at ho;obtain ⟨h1,h2⟩:=ho;rw [Jqf] at h;rw [Jug];refine ⟨?_,J59 t nm h1 fun x hx=>h x (List.mem_append_left _ hx),J30 r h2 fun x hx=>h x (List.mem_append_right _ hx)⟩;cases t with
  | mk k s n c kids =>
   have:=h ⟨k,kids.len,nm,s,n,c⟩ (List.mem_append_left _ (by rw [Jqi];exact List.mem_cons_self));exact this.2.1
end
def Jw9 (n:Int) (c:Node):RT:=.mk 9 [] n c .nil
def zNum:Node:=⟨3,0,[],[],false,0⟩
def scalT1:RT:=.mk 1 [] 8 Jry (.cons [] (Jw9 5 zNum) .nil)
def objT1:RT:=.mk 2 [] 1 Jry (.cons [97] scalT1 .nil)
def noneT:RT:=.mk 1 [] 1 Jry (.cons [] (Jw9 1 Jry) .nil)
theorem J6j {g:Int} {n:Int} {c:Node} (h1:1≤g) (h2:g≤31) (h:Jrg n c):okR (.mk 1 [] g Jry (.cons [] (Jw9 n c) .nil)):=by
 rw [Jsv];refine ⟨?_,⟨?_,fun h=>by omega⟩,fun h=>by omega,?_⟩
 ·unfold Jqu;rw [if_neg de,if_pos de];exact ⟨by simp [RF.len],h1,h2,rfl,rfl⟩
 ·intro p hp;simp only [RF.list,List.mem_cons,List.not_mem_nil,or_false] at hp;subst hp;exact ⟨by simp [RT.kind,Jw9],fun _=>rfl,fun h=>by omega⟩
 ·rw [Jrv];unfold Jw9;rw [Jsv];refine ⟨⟨?_,Juu 9,fun h=>by omega,Jsc⟩,Jsc⟩;unfold Jqu;rw [if_neg de,if_neg de,if_pos de];exact ⟨rfl,rfl,h⟩
theorem J79:okR scalT1:=J6j omg omg (by decide +kernel)
theorem J2q:okR noneT:=J6j omg omg (by decide +kernel)
theorem Jyn:okR objT1:=by
 unfold objT1;rw [Jsv];refine ⟨?_,⟨?_,fun _=>by simp [J3x,RF.list]⟩,fun h=>by omega,?_⟩
 ·unfold Jqu;rw [if_neg de,if_neg de,if_neg de,if_pos de];exact ⟨by simp [RF.len],.inr rfl,rfl,rfl⟩
 ·intro p hp;simp only [RF.list,List.mem_cons,List.not_mem_nil,or_false] at hp;subst hp;exact ⟨by simp [RT.kind,scalT1],fun h=>absurd rfl h,fun _=>by decide +kernel⟩
 ·rw [Jrv];exact ⟨J79,Jsc⟩
theorem J5l:Jt3 (objT1.enc [])=true:=by
 unfold Jt3;rw [Jrz.2 ⟨objT1,Jyn,by decide,rfl⟩,Bool.true_and];decide +kernel
theorem J49:Jt3 (noneT.enc [])=false:=by
 unfold Jt3;rw [Jrz.2 ⟨noneT,J2q,by decide,rfl⟩,Bool.true_and];decide +kernel
theorem J5r:Js5 objT1=[123,97,58,32,110,117,109,40,62,61,32,48,41,44,32,63,125]:=by decide +kernel
theorem J4m:Jr3 objT1 [⟨false,[97],0⟩]=some 1:=by decide +kernel
theorem Juc {v:List YRow} (h:∀ r∈v,Jtp r):∀ r∈v,RowFit r:=fun r hr=>J7q (h r hr)
theorem Jz3 {v:List YRow} (h:∀ r∈v,Jtp r):∀ r∈v,r.c.s.length≤500:=fun r hr=>by have:=(h r hr).2.2.1;omega
theorem Jsx:Det cx 6 [] [] (.p (.bool true)) []:=by
 have so:∀ r∈objT1.enc [],Jtp r:=by unfold Jtp;decide
 have sn:∀ r∈noneT.enc [],Jtp r:=by unfold Jtp;decide
 have e1:rowL (scalT1.enc [])=[[.int .i64 1,.int .i64 1,.str [],.str [],.int .i64 8,.int .i64 0,.int .i64 0,.str [],.str [],.bool false,.int .i64 0],[.int .i64 9,.int .i64 0,.str [],.str [],.int .i64 5,.int .i64 3,.int .i64 0,.str [],.str [],.bool false,.int .i64 0]]:=rfl;have e2:rowL (noneT.enc [])=[[.int .i64 1,.int .i64 1,.str [],.str [],.int .i64 1,.int .i64 0,.int .i64 0,.str [],.str [],.bool false,.int .i64 0],[.int .i64 9,.int .i64 0,.str [],.str [],.int .i64 1,.int .i64 0,.int .i64 0,.str [],.str [],.bool false,.int .i64 0]]:=rfl;have e3:rowL (objT1.enc [])=[[.int .i64 2,.int .i64 1,.str [],.str [],.int .i64 1,.int .i64 0,.int .i64 0,.str [],.str [],.bool false,.int .i64 0],[.int .i64 1,.int .i64 1,.str [97],.str [],.int .i64 8,.int .i64 0,.int .i64 0,.str [],.str [],.bool false,.int .i64 0],[.int .i64 9,.int .i64 0,.str [],.str [],.int .i64 5,.int .i64 3,.int .i64 0,.str [],.str [],.bool false,.int .i64 0]]:=rfl;have hM:=J27 ⟨2,0,[],[],1,Jry⟩ [[97]] [scalT1.enc []] de de de de de;rw [show Jvk ⟨2,0,[],[],1,Jry⟩ [[97]] [scalT1.enc []]=objT1.enc [] from rfl,e3,show Jq3 [scalT1.enc []]=[[.sl [[.int .i64 1,.int .i64 1,.str [],.str [],.int .i64 8,.int .i64 0,.int .i64 0,.str [],.str [],.bool false,.int .i64 0],[.int .i64 9,.int .i64 0,.str [],.str [],.int .i64 5,.int .i64 3,.int .i64 0,.str [],.str [],.bool false,.int .i64 0]]]] from rfl,show Jqr [[97]]=[[.str [97]]] from rfl] at hM;have hL:=J1o [⟨false,[97],0⟩] objT1 [] de de;rw [J4m,e3,show Bb [⟨false,[97],0⟩]=[[.bool false,.str [97],.int .i64 0]] from rfl,show J0x (some 1)=.tup [.int .i64 1,.bool true] from rfl] at hL;have hT:=J50 10000 (Nat.le_refl _) objT1 [] Jyn de (J59 objT1 [] Jyn so) de;rw [J5r,e3] at hT;have hG:=J51 (objT1.enc []) de (Juc so) (Jz3 so);rw [J5l,e3] at hG;have hG2:=J51 (noneT.enc []) de (Juc sn) (Jz3 sn);rw [J49,e2] at hG2;have hR:=J2v (noneT.enc []) de (Juc sn);rw [Jrz.2 ⟨noneT,J2q,by decide,rfl⟩,e2] at hR;have hP:=J8n [] 2 [] 1 Jry (.cons [97] scalT1 .nil) de de;rw [show (RT.mk 2 [] 1 Jry (.cons [97] scalT1 .nil))=objT1 from rfl,e3,show Jsn (RF.cons [97] scalT1 .nil).list=[[.sl [[.int .i64 1,.int .i64 1,.str [],.str [],.int .i64 8,.int .i64 0,.int .i64 0,.str [],.str [],.bool false,.int .i64 0],[.int .i64 9,.int .i64 0,.str [],.str [],.int .i64 5,.int .i64 3,.int .i64 0,.str [],.str [],.bool false,.int .i64 0]]]] from rfl] at hP;have hA:=J3h [] [] 8 Jry (.cons [] (Jw9 5 zNum) .nil) de (by intro p hp;simp only [RF.list,List.mem_cons,List.not_mem_nil,or_false] at hp;subst hp;rfl);rw [show (RT.mk 1 [] 8 Jry (.cons [] (Jw9 5 zNum) .nil))=scalT1 from rfl,e1,show Jq8 (Jqq (RF.cons [] (Jw9 5 zNum) .nil).list)=[[.int .i64 5,.int .i64 3,.int .i64 0,.str [],.str [],.bool false,.int .i64 0]] from rfl] at hA;have hS:=J95 (objT1.enc []) (objT1.enc []) de de;rw [decide_eq_true rfl,e3] at hS;clear so sn e1 e2 e3;(refine bgo Tryz.func6 ?_;simp only [go_sem,simprocAttr]);(repeat' (first | ((first | (refine Jqa (hM) ?_)|(refine Jqa (hL) ?_)|(refine Jqa (hT) ?_)|(refine Jqa (hG) ?_)|(refine Jqa (hG2) ?_)|(refine Jqa (hR) ?_)|(refine Jqa (hP) ?_)|(refine Jqa (hA) ?_)|(refine Jqa (hS) ?_));simp only [go_sem,simprocAttr]) | fail))
end Go.LX
