/- Types, the laws: parts. -/
import Derived.Test.YtgfggbndbceppaaGreatDoorLxZB
import Derived.Test.YtgfggbndbceppaaGreatDoorLxW
import Derived.Test.YtgfggbndbceppaaGreatDoorLxZ
import Derived.Test.YtgfggbndbceppaaGreatDoorLxX
import Derived.Test.YtgfggbndbceppaaGreatDoorLxZA
set_option linter.unusedSimpArgs false
set_option linter.unusedVariables false
set_option linter.unusedSectionVars false
set_option linter.unnecessarySimpa false
set_option maxRecDepth 100000
set_option maxHeartbeats 2000000
namespace Go.LX
open Go Go.RowKit Go.Proofs
attribute [local irreducible] Al SWP Bi
attribute [go_sem] Tryz.ntmps10 Tryz.results10
theorem J7w {t:RT} (h:okR t) (h9:t.kind≠9):Jrr (t.enc [])=true:=Jr7.2 ⟨t,h,h9,rfl⟩
attribute [go_sem] Tryz.ntmps12 Tryz.results12
mutual
theorem J0c:∀ (t:RT) (nm:List UInt8),nm.length≤100→fitQ t→∀ r∈t.enc nm,RowFit r
 | .mk k s n c kids,nm,hn,h,r,hr=>by
  rw [fitQ] at h;obtain ⟨⟨a1,a2,a3,a4,a5,a6⟩,h2⟩:=h;rw [Jqh] at hr;rcases List.mem_cons.1 hr with rfl | hr
  ·exact ⟨by simp only;omega,by simp only;omega,⟨by simp only;omega,a5,a6⟩⟩
  ·exact J3i kids h2 r hr
theorem J3i:∀ (f:RF),Jsz f→∀ r∈f.enc,RowFit r
 | .nil,_,r,hr=>by rw [Jq5] at hr;cases hr
 | .cons nm t q,h,r,hr=>by
  rw [Jsz] at h;rw [Jqe] at hr;rcases List.mem_append.1 hr with hr | hr
  ·exact J0c t nm h.1 h.2.1 r hr
  ·exact J3i q h.2.2 r hr
end
end Go.LX
namespace Go.LX
open Go
theorem Juh (x:List UInt8) (l:List (List UInt8)):Jqq [44,32] (x :: l)=x ++ Jwx l:=by
 induction l generalizing x with
 | nil=>simp [Jqq,Jwx]
 | cons y l ih=>rw [Jqq,ih,Jwx];simp
theorem Jwi {cl:UInt8} (hc:cl=41∨cl=93∨cl=125) (l:List (List UInt8)) (x:List UInt8):Ends (Jwx l ++ cl :: x):=by
 intro c h;cases l with
 | nil =>
  simp [Jwx] at h;subst h;rcases hc with rfl | rfl | rfl
  ·exact .inl rfl
  ·exact .inr (.inr (.inl rfl))
  ·exact .inr (.inr (.inr rfl))
 | cons y l=>simp [Jwx] at h;subst h;exact .inr (.inl rfl)
theorem J68 {cl:UInt8} (hc:cl=41∨cl=93∨cl=125):cl≠44:=by rcases hc with rfl | rfl | rfl <;> decide
theorem J6c {α:Type} {τ:α→List UInt8} {cl:UInt8} (hc:cl=41∨cl=93∨cl=125):∀ (l m:List α) (x y:List UInt8),(∀ a∈l,∀ b∈m,∀ x y,Ends x→Ends y→τ a ++ x=τ b ++ y→a=b∧x=y)→Jwx (l.map τ) ++ cl :: x=Jwx (m.map τ) ++ cl :: y→l=m∧x=y
 | [],[],x,y,_,h=>by injection h with _ h;exact ⟨rfl,h⟩
 | [],b :: m,x,y,_,h=>by injection h with h _;exact absurd h (J68 hc)
 | a :: l,[],x,y,_,h=>by injection h with h _;exact absurd h.symm (J68 hc)
 | a :: l,b :: m,x,y,hi,h=>by
  simp only [List.map_cons,Jwx,List.cons_append,List.append_assoc] at h;injection h with _ h
  injection h with _ h
  obtain ⟨h1,h2⟩:=hi a List.mem_cons_self b List.mem_cons_self _ _ (Jwi hc _ _) (Jwi hc _ _) h;obtain ⟨h3,h4⟩:=J6c hc l m x y (fun a ha b hb=>hi a (List.mem_cons_of_mem _ ha) b (List.mem_cons_of_mem _ hb)) h2;exact ⟨by rw [h1,h3],h4⟩
theorem J0u {α:Type} {τ:α→List UInt8} {cl:UInt8} (hc:cl=41∨cl=93∨cl=125) (l m:List α) (x y:List UInt8) (hi:∀ a∈l,∀ b∈m,∀ x y,Ends x→Ends y→τ a ++ x=τ b ++ y→a=b∧x=y) (hl:∀ a∈l,∃ c r,τ a=c :: r∧c≠cl) (hm:∀ b∈m,∃ c r,τ b=c :: r∧c≠cl) (h:Jqq [44,32] (l.map τ) ++ cl :: x=Jqq [44,32] (m.map τ) ++ cl :: y):l=m∧x=y:=by
 match l,m,hi,hl,hm,h with
 | [],[],_,_,_,h=>injection h with _ h;exact ⟨rfl,h⟩
 | [],b :: m,_,_,hm,h =>
  obtain ⟨c,r,e,hne⟩:=hm b List.mem_cons_self;rw [List.map_cons,Juh,e] at h;injection h with h _
  exact absurd h.symm hne
 | a :: l,[],_,hl,_,h =>
  obtain ⟨c,r,e,hne⟩:=hl a List.mem_cons_self;rw [List.map_cons,Juh,e] at h;injection h with h _
  exact absurd h hne
 | a :: l,b :: m,hi,_,_,h =>
  rw [List.map_cons,List.map_cons,Juh,Juh,List.append_assoc,List.append_assoc] at h;obtain ⟨h1,h2⟩:=hi a List.mem_cons_self b List.mem_cons_self _ _ (Jwi hc _ _) (Jwi hc _ _) h;obtain ⟨h3,h4⟩:=J6c hc l m x y (fun a ha b hb=>hi a (List.mem_cons_of_mem _ ha) b (List.mem_cons_of_mem _ hb)) h2;exact ⟨by rw [h1,h3],h4⟩
def lowC (c:UInt8):Bool:=(decide (97≤c.toNat) && decide (c.toNat≤122)) || c == 124
theorem J1k:∀ m<32,(Jqq [124] (Jua m)).all lowC=true:=by decide +kernel
theorem Kbx:∀ m<32,∀ n<32,Jqq [124] (Jua m)=Jqq [124] (Jua n)→m=n:=by decide +kernel
theorem Kco {a b:Int} (a0:0≤a) (a5:a≤5) (b0:0≤b) (b5:b≤5) (h:Jsf a=Jsf b):a=b:=by
 have:∀ i<6,∀ j<6,Jsf ((i:Nat):Int)=Jsf ((j:Nat):Int)→i=j:=by decide
 have:=this a.toNat omg b.toNat omg (by rw [Int.toNat_of_nonneg a0,Int.toNat_of_nonneg b0];exact h);omega
def J90 (c:UInt8):Bool:=c == 60 || (c == 61 || (c == 62 || c == 33))
theorem J5q {a:Int}:∀ c∈Jsf a,J90 c=true:=by
 unfold Jsf
 repeat' split
 all_goals decide
theorem J76 (a:Int):∃ c r,Jsf a=c :: r∧J90 c=true:=by
 unfold Jsf
 repeat' split
 all_goals exact ⟨_,_,rfl,by decide⟩
theorem Kbz {a b:Int×Node} (ha:Jrf a.1 a.2) (hb:Jrf b.1 b.2) {x y:List UInt8} (hx:Ends x) (hy:Ends y) (h:Jro a ++ x=Jro b ++ y):a=b∧x=y:=by
 unfold Jro at h;simp only [List.append_assoc,List.cons_append,List.nil_append] at h;have h32:∀ (z:List UInt8) c,((32 :: z):List UInt8).head? = some c→J90 c=false:=fun z c hc=>by cases hc;rfl
 obtain ⟨h1,h2⟩:=Jv8 (P:=J90) J5q J5q (h32 _) (h32 _) h;injection h2 with _ h2
 obtain ⟨h3,h4⟩:=Kch ha.2.2 hb.2.2 hx hy h2;exact ⟨Prod.ext (Kco ha.1 ha.2.1 hb.1 hb.2.1 h1) h3,h4⟩
theorem J7s {m n:Nat} {l k:List (Int×Node)} (hm:m<32) (hn:n<32) (hl:∀ a∈l,Jrf a.1 a.2) (hk:∀ a∈k,Jrf a.1 a.2) {x y:List UInt8} (hx:Ends x) (hy:Ends y) (h:Js4 m l ++ x=Js4 n k ++ y):m=n∧l=k∧x=y:=by
 have low:∀ {z:List UInt8},Ends z→∀ {l:List (Int×Node)},∀ c,((if l=[] then [] else 40 :: (Jqq [44,32] (l.map Jro) ++ [41])) ++ z).head? = some c→lowC c=false:=by
  intro z hz l c hc;split at hc
  ·rcases hz c hc with rfl | rfl | rfl | rfl <;> rfl
  ·cases hc;rfl
 unfold Js4 at h;rw [List.append_assoc,List.append_assoc] at h;obtain ⟨h1,h2⟩:=Jv8 (P:=lowC) (List.all_eq_true.1 (J1k m hm)) (List.all_eq_true.1 (J1k n hn)) (low hx) (low hy) h;refine ⟨Kbx m hm n hn h1,?_⟩;have no:∀ {z w:List UInt8},Ends z→z=40 :: w→False:=by
  rintro z w hz rfl;rcases hz 40 rfl with h | h | h | h <;> revert h <;> decide
 have first:∀ a:Int×Node,∃ c r,Jro a=c :: r∧c≠41:=fun a=>by
  obtain ⟨c,r,e,hc⟩:=J76 a.1;refine ⟨c,_,by unfold Jro;rw [e];rfl,?_⟩;rintro rfl;cases hc
 by_cases e1:l=[]
 ·rw [if_pos e1] at h2;by_cases e2:k=[]
  ·rw [if_pos e2] at h2;exact ⟨by rw [e1,e2],h2⟩
  ·rw [if_neg e2] at h2;exact (no hx h2).elim
 ·rw [if_neg e1] at h2;by_cases e2:k=[]
  ·rw [if_pos e2] at h2;exact (no hy h2.symm).elim
  ·rw [if_neg e2] at h2;simp only [List.cons_append,List.append_assoc,List.nil_append] at h2;injection h2 with _ h2
   exact J0u (.inl rfl) l k x y (fun a ha b hb x y hx hy=>Kbz (hl a ha) (hk b hb) hx hy) (fun a _=>first a) (fun a _=>first a) h2
def clsT:List UInt8→Int
 | c :: d :: _=>if c=97 then 0 else if c=123 then 2 else if c=91 then 5 else if c=101 then 6 else if c=103 then 8 else if c=115∧d=111 then 7 else if c=116∧d=117 then 4 else 1
 | _=>-1
theorem Kep {l:List UInt8} (h:2≤l.length) (x:List UInt8):clsT (l ++ x)=clsT l:=by
 match l,h with
 | c :: d :: r,_=>rfl
theorem J5p:∀ m<32,0<m→clsT (Jqq [124] (Jua m))=1∧2≤(Jqq [124] (Jua m)).length:=by decide +kernel
theorem J9j {c:UInt8} {z:List UInt8} (hz:z≠[]) (v:Int) (h:∀ d r,clsT (c :: d :: r)=v):clsT (c :: z)=v:=by
 obtain ⟨d,r,rfl⟩:=List.exists_cons_of_ne_nil hz;exact h d r
theorem Kdf {k:Int} {s:List UInt8} {n:Int} {c:Node} {kids:RF} (h:okR (.mk k s n c kids)) (h9:k≠9) (x:List UInt8):clsT (Jrb (.mk k s n c kids) ++ x)=if k=3 then 2 else k:=by
 have hr:=(Jr5.1 h).1;unfold Jqv at hr;rw [Jth];unfold Jse;by_cases k0:k=0
 ·rw [if_pos k0,if_neg omg,k0];rfl
 rw [if_neg k0] at hr ⊢;by_cases k1:k=1
 ·rw [if_pos k1] at hr ⊢;rw [if_neg omg,k1];obtain ⟨g1,g2⟩:=J5p n.toNat omg omg;unfold Js4;rw [List.append_assoc,Kep g2,g1]
 rw [if_neg k1] at hr ⊢;rw [if_neg h9] at hr;by_cases k2:k=2
 ·rw [if_pos k2,if_neg omg,k2];rw [List.cons_append];exact J9j sm 2 fun d r=>rfl
 rw [if_neg k2] at hr ⊢;unfold Jrn;by_cases k3:k=3
 ·rw [if_pos k3,if_pos k3];rfl
 rw [if_neg k3,if_neg k3];by_cases k4:k=4
 ·rw [if_pos k4,k4];rfl
 rw [if_neg k4] at hr ⊢;by_cases k5:k=5
 ·rw [if_pos k5,k5];simp only [List.append_assoc,List.cons_append,List.nil_append];exact J9j sm 5 fun d r=>rfl
 rw [if_neg k5];by_cases k6:k=6
 ·rw [if_pos k6,k6];rfl
 rw [if_neg k6];rw [if_neg omg] at hr;by_cases k7:k=7
 ·rw [if_pos k7,k7];rfl
 rw [if_neg k7];by_cases k8:k=8
 ·rw [k8];rfl
 ·rw [if_neg omg] at hr;exact hr.elim
theorem Kcl {t:RT} (h:okR t) (h9:t.kind≠9):∃ c r,Jrb t=c :: r∧c≠41∧c≠93∧c≠125:=by
 cases t with
 | mk k s n c kids =>
  have hr:=(Jr5.1 h).1;simp only [RT.kind] at h9;unfold Jqv at hr;rw [Jth];unfold Jse;by_cases k0:k=0
  ·rw [if_pos k0];exact ⟨_,_,rfl,by decide,by decide,by decide⟩
  rw [if_neg k0] at hr ⊢;by_cases k1:k=1
  ·rw [if_pos k1] at hr ⊢;have g1:=J5p n.toNat omg omg;have g2:=J1k n.toNat omg;unfold Js4;cases hj:Jqq [124] (Jua n.toNat) with
   | nil=>rw [hj] at g1;simp at g1
   | cons a r =>
    rw [hj,List.all_cons,Bool.and_eq_true] at g2;refine ⟨a,_,rfl,?_,?_,?_⟩ <;> (rintro rfl;exact absurd g2.1 de)
  rw [if_neg k1];by_cases k2:k=2
  ·rw [if_pos k2];exact ⟨_,_,rfl,by decide,by decide,by decide⟩
  rw [if_neg k2];unfold Jrn
  repeat' split
  all_goals exact ⟨_,_,rfl,by decide,by decide,by decide⟩
theorem Kdn:∀ {f:RF} {p:RKT},p∈f.list→(p.2.enc []).length≤f.enc.length
 | .nil,p,h=>by cases h
 | .cons nm t r,p,h=>by
  rw [Jqe,List.length_append];rcases List.mem_cons.1 h with rfl | h
  ·rw [J70 t nm];exact Nat.le_add_right _ _
  ·have:=Kdn h;omega
theorem Jwn:∀ {f g:RF},f.list=g.list→f=g
 | .nil,.nil,_=>rfl
 | .nil,.cons _ _ _,h=>by simp [RF.list] at h
 | .cons _ _ _,.nil,h=>by simp [RF.list] at h
 | .cons nm t r,.cons nm' t' r',h=>by
  simp only [RF.list,List.cons.injEq,Prod.mk.injEq] at h;obtain ⟨⟨rfl,rfl⟩,h⟩:=h;rw [Jwn h]
def Jts (n:Int) (l:List RKT):List (Option RKT):=l.map some ++ if n=1 then [none] else []
theorem Jx7 (n:Int) (f:RF):(Jqi f).map fieldTx ++ Jt0 n=(Jts n f.list).map itemTx:=by
 unfold Jts Jt0;rw [Jtu,List.map_append,List.map_map,List.map_map];congr 1;split <;> rfl
theorem Kbq {n n':Int} {l l':List RKT} (hn:n=0∨n=1) (hn':n'=0∨n'=1) (h:Jts n l=Jts n' l'):n=n'∧l=l':=by
 unfold Jts at h;have hs:∀ {l l':List RKT},l.map some=l'.map some→l=l':=fun h=>(List.map_inj_right (fun a b h=>by injection h)).1 h
 have last:∀ {l l':List RKT},l.map some≠l'.map some ++ [none]:=by
  intro l l' h;have:(none:Option RKT)∈l.map some:=by rw [h];simp
  simp at this
 rcases hn with rfl | rfl <;> rcases hn' with rfl | rfl
 ·rw [if_neg de,List.append_nil,List.append_nil] at h;exact ⟨rfl,hs h⟩
 ·rw [if_neg de,if_pos rfl,List.append_nil] at h;exact (last h).elim
 ·rw [if_pos rfl,if_neg de,List.append_nil] at h;exact (last h.symm).elim
 ·rw [if_pos rfl] at h;exact ⟨rfl,hs (List.append_cancel_right h)⟩
theorem Kb8:∀ (N:Nat) (t u:RT),(t.enc []).length≤N→okR t→okR u→t.kind≠9→u.kind≠9→∀ x y,Ends x→Ends y→Jrb t ++ x=Jrb u ++ y→t=u∧x=y
 | 0,t,_,h,_,_,_,_,_,_,_,_,_=>by have:=Jrs t [];omega
 | N+1,.mk k s n c kids,.mk k' s' n' c' kids',hN,ho,ho',h9,h9',x,y,hx,hy,h=>by
  have hcl:(if k=3 then 2 else k)=if k'=3 then 2 else k':=by rw [← Kdf ho h9 x,h,Kdf ho' h9' y]
  simp only [RT.kind] at h9 h9';obtain ⟨r1,⟨r2,_⟩,_,r3⟩:=Jr5.1 ho;obtain ⟨q1,⟨q2,_⟩,_,q3⟩:=Jr5.1 ho';have rk:=Jst.1 r3;have qk:=Jst.1 q3;rw [Jqh,List.length_cons] at hN;have ih:∀ p∈kids.list,∀ q∈kids'.list,p.2.kind≠9→q.2.kind≠9→∀ x y,Ends x→Ends y→Jrb p.2 ++ x=Jrb q.2 ++ y→p.2=q.2∧x=y:=fun p hp q hq g1 g2 x y hx hy h=>Kb8 N p.2 q.2 (by have:=Kdn hp;omega) (rk p hp) (qk q hq) g1 g2 x y hx hy h
  unfold Jqv at r1 q1;rw [Jth,Jth] at h;unfold Jse at h;by_cases k0:k=0
  ·have k0':k'=0:=by rw [if_neg omg] at hcl;split at hcl <;> omega
   subst k0 k0';rw [if_pos rfl] at r1 q1;rw [if_pos rfl,if_pos rfl] at h;have e1:kids=.nil:=by cases kids with | nil=>rfl | cons=>have:=r1.1;simp [RF.len] at this;omega
   have e2:kids'=.nil:=by cases kids' with | nil=>rfl | cons=>have:=q1.1;simp [RF.len] at this;omega
   exact ⟨by rw [e1,e2,r1.2.1,r1.2.2.1,r1.2.2.2,q1.2.1,q1.2.2.1,q1.2.2.2],List.append_cancel_left h⟩
  by_cases k1:k=1
  ·have k1':k'=1:=by rw [if_neg omg] at hcl;split at hcl <;> omega
   subst k1 k1';rw [if_neg omg,if_pos rfl] at r1 q1;rw [if_neg omg,if_pos rfl,if_neg omg,if_pos rfl] at h;have kid9:∀ {kids:RF},okRF kids→(∀ p∈kids.list,Jvl 1 p)→∀ p∈kids.list,p=([],.mk 9 [] p.2.n p.2.c .nil)∧Jrf p.2.n p.2.c:=by
    intro kids h1 h2 p hp;obtain ⟨g1,g2,_⟩:=h2 p hp;have g3:=Jst.1 h1 p hp;obtain ⟨nm,⟨k,s,n,c,ks⟩⟩:=p;have g4:k=9:=g1.2 rfl;have g5:nm=[]:=g2 omg;subst g4 g5;have g6:=(Jr5.1 g3).1;unfold Jqv at g6;rw [if_neg omg,if_neg omg,if_pos rfl] at g6;have e1:ks=.nil:=by cases ks with | nil=>rfl | cons=>have:=g6.1;simp [RF.len] at this;omega
    refine ⟨?_,g6.2.2⟩;rw [e1,g6.2.1];rfl
   obtain ⟨g1,g2,g3⟩:=J7s omg omg (l:=Jqf kids.list) (k:=Jqf kids'.list) (fun a ha=>by
    obtain ⟨p,hp,rfl⟩:=List.mem_map.1 ha;exact (kid9 r3 r2 p hp).2) (fun a ha=>by
    obtain ⟨p,hp,rfl⟩:=List.mem_map.1 ha;exact (kid9 q3 q2 p hp).2) hx hy h
   refine ⟨?_,g3⟩;have back:∀ {kids:RF},okRF kids→(∀ p∈kids.list,Jvl 1 p)→kids.list=(Jqf kids.list).map fun a=>([],.mk 9 [] a.1 a.2 .nil):=by
    intro kids h1 h2;unfold Jqf;rw [List.map_map];refine (List.map_id' _).symm.trans (List.map_congr_left fun p hp=>(kid9 h1 h2 p hp).1)
   have e1:kids=kids':=Jwn (by rw [back r3 r2,back q3 q2,g2]);rw [e1,show n=n' by omega,r1.2.2.2.1,r1.2.2.2.2,q1.2.2.2.1,q1.2.2.2.2]
  have c2:∀ p∈kids.list,p.2.kind≠9:=fun p hp h=>k1 ((r2 p hp).1.1 h)
  have k0':k'≠0:=by rintro rfl;rw [if_neg (show ¬ (0:Int)=3 by omega)] at hcl;split at hcl <;> omega
  have k1':k'≠1:=by rintro rfl;rw [if_neg (show ¬ (1:Int)=3 by omega)] at hcl;split at hcl <;> omega
  have c2':∀ p∈kids'.list,p.2.kind≠9:=fun p hp h=>k1' ((q2 p hp).1.1 h)
  rw [if_neg k0,if_neg k1,if_neg h9] at r1;rw [if_neg k0',if_neg k1',if_neg h9'] at q1;rw [if_neg k0,if_neg k1,if_neg k0',if_neg k1'] at h;have dict:∀ {n:Int} {f:RF} {x z:List UInt8},123 :: (Jqq [44,32] ((Jqi f).map fieldTx ++ Jt0 n) ++ [125]) ++ x=[123,63,58,32] ++ z→False:=by
   intro n f x z h;simp only [List.cons_append,List.append_assoc,List.nil_append] at h;injection h with _ h
   rw [Jx7] at h;cases hl:Jts n f.list with
   | nil=>rw [hl] at h;injection h with h _;revert h;decide
   | cons a l =>
    rw [hl,List.map_cons,Juh] at h;cases a with
    | none =>
     injection h with _ h
     cases l with
     | nil=>injection h with h _;revert h;decide
     | cons b l=>injection h with h _;revert h;decide
    | some p =>
     obtain ⟨c,r,e,hc⟩:=Jxw (s:=p.1);simp only [itemTx,fieldTx] at h;rw [e] at h;injection h with h _
     subst h;revert hc;decide
  by_cases k2:k=2
  ·by_cases k2':k'=2
   ·subst k2 k2';rw [if_pos rfl] at r1 q1;rw [if_pos rfl,if_pos rfl] at h;simp only [List.cons_append,List.append_assoc,List.nil_append] at h;injection h with _ h
    rw [Jx7,Jx7] at h;have hfirst:∀ o:Option RKT,∃ c r,itemTx o=c :: r∧c≠125:=by
     intro o;cases o with
     | none=>exact ⟨63,[],rfl,by decide⟩
     | some p =>
      obtain ⟨c,r,e,hc⟩:=Jxw (s:=p.1);refine ⟨c,_,by simp only [itemTx,fieldTx];rw [e];rfl,?_⟩;rintro rfl;revert hc;decide
    obtain ⟨g1,g2⟩:=J0u (.inr (.inr rfl)) (Jts n kids.list) (Jts n' kids'.list) x y (fun a ha b hb x y hx hy h=>by
     have n63:∀ {p:RKT} {x y:List UInt8},[63] ++ x=itemTx (some p) ++ y→False:=by
      intro p x y h;obtain ⟨c,r,e,hc⟩:=Jxw (s:=p.1);simp only [itemTx,fieldTx] at h;rw [e] at h;injection h with h _
      subst h;revert hc;decide
     cases a with
     | none=>cases b with
      | none=>injection h with _ h;exact ⟨rfl,h⟩
      | some q=>exact (n63 h).elim
     | some p=>cases b with
      | none=>exact (n63 h.symm).elim
      | some q =>
       have hp:p∈kids.list:=by
        unfold Jts at ha;rcases List.mem_append.1 ha with ha | ha
        ·obtain ⟨p',hp',e⟩:=List.mem_map.1 ha;cases e;exact hp'
        ·split at ha <;> simp at ha
       have hq:q∈kids'.list:=by
        unfold Jts at hb;rcases List.mem_append.1 hb with hb | hb
        ·obtain ⟨p',hp',e⟩:=List.mem_map.1 hb;cases e;exact hp'
        ·split at hb <;> simp at hb
       unfold itemTx fieldTx at h;simp only [List.append_assoc,List.cons_append,List.nil_append] at h;have h58:∀ (z:List UInt8) c,((58 :: z):List UInt8).head? = some c→Jy8 c=false:=fun z c hc=>by cases hc;decide
       obtain ⟨e1,e2⟩:=Kdg ((r2 p hp).2.2 rfl) ((q2 q hq).2.2 rfl) (h58 _) (h58 _) h;injection e2 with _ e2
       injection e2 with _ e2
       obtain ⟨e3,e4⟩:=ih p hp q hq (c2 p hp) (c2' q hq) x y hx hy e2;exact ⟨by rw [show p=q from Prod.ext e1 e3],e4⟩) (fun a _=>hfirst a) (fun a _=>hfirst a) h
    obtain ⟨g3,g4⟩:=Kbq r1.2.1 q1.2.1 g1;exact ⟨by rw [Jwn g4,g3,r1.2.2.1,r1.2.2.2,q1.2.2.1,q1.2.2.2],g2⟩
   ·have k3':k'=3:=by rw [if_neg omg] at hcl;split at hcl <;> omega
    exfalso;subst k2 k3';rw [if_pos rfl,if_neg omg] at h;unfold Jrn at h;rw [if_pos rfl] at h;simp only [List.append_assoc] at h;exact dict h
  ·by_cases k2':k'=2
   ·have k3:k=3:=by rw [if_neg (show ¬ k'=3 by omega)] at hcl;split at hcl <;> omega
    exfalso;subst k2' k3;rw [if_pos rfl,if_neg omg] at h;unfold Jrn at h;rw [if_pos rfl] at h;simp only [List.append_assoc] at h;exact dict h.symm
   ·have kk:k'=k:=by split at hcl <;> split at hcl <;> omega
    subst kk;rw [if_neg k2,if_neg k2'] at h;rw [if_neg k2] at r1 q1;have c3:∀ p∈kids.list,p.1=[]:=fun p hp=>(r2 p hp).2.1 k2
    have c3':∀ p∈kids'.list,p.1=[]:=fun p hp=>(q2 p hp).2.1 k2
    have he:Jrk k'=41∨Jrk k'=93∨Jrk k'=125:=by
     unfold Jrk
     repeat' split
     all_goals decide
    have fin:∀ {x y:List UInt8},Ends x→Ends y→Jqq [44,32] ((Jqi kids).map (·.2)) ++ Jrk k' :: x=Jqq [44,32] ((Jqi kids').map (·.2)) ++ Jrk k' :: y→kids=kids'∧x=y:=by
     intro x y hx hy h;have hm:∀ f:RF,(Jqi f).map (·.2)=f.list.map fun p=>Jrb p.2:=fun f=>by rw [Jtu,List.map_map];rfl
     rw [hm,hm] at h;have hfst:∀ {t:RT},okR t→t.kind≠9→∃ c r,Jrb t=c :: r∧c≠Jrk k':=by
      intro t h1 h2;obtain ⟨c,r,e,g1,g2,g3⟩:=Kcl h1 h2;refine ⟨c,r,e,?_⟩;rcases he with h | h | h <;> rw [h] <;> assumption
     obtain ⟨g1,g2⟩:=J0u (τ:=fun p:RKT=>Jrb p.2) he kids.list kids'.list x y (fun p hp q hq x y hx hy h=>by
      obtain ⟨e3,e4⟩:=ih p hp q hq (c2 p hp) (c2' q hq) x y hx hy h;exact ⟨Prod.ext (by rw [c3 p hp,c3' q hq]) e3,e4⟩) (fun p hp=>hfst (rk p hp) (c2 p hp)) (fun p hp=>hfst (qk p hp) (c2' p hp)) h
     exact ⟨Jwn g1,g2⟩
    simp only [List.append_assoc,List.cons_append,List.nil_append] at h;by_cases k78:k'=7∨k'=8
    ·rw [if_neg omg,if_neg omg,if_pos k78] at r1 q1;have n3:(k'=3)=False:=eq_false omg;have n4:(k'=4)=False:=eq_false omg;have n5:(k'=5)=False:=eq_false omg;have n6:(k'=6)=False:=eq_false omg;simp only [Jrn,n3,n4,n5,n6,if_false] at h;have hs:s ++ 44 :: 32 :: (Jqq [44,32] ((Jqi kids).map (·.2)) ++ Jrk k' :: x)=s' ++ 44 :: 32 :: (Jqq [44,32] ((Jqi kids').map (·.2)) ++ Jrk k' :: y):=by
      rcases k78 with h7 | h8
      ·rw [if_pos h7,if_pos h7] at h;simpa using h
      ·rw [if_neg omg,if_neg omg] at h;simpa using h
     obtain ⟨e1,e2⟩:=Kec r1.2.2.2 q1.2.2.2 hs;injection e2 with _ e2
     obtain ⟨e3,e4⟩:=fin hx hy e2;exact ⟨by rw [e1,e3,r1.2.1,r1.2.2.1,q1.2.1,q1.2.2.1],e4⟩
    ·have hc:s=[]∧n=0∧c=zeroN:=by
      split at r1
      ·exact ⟨r1.2.2.1,r1.2.1,r1.2.2.2⟩
      ·split at r1
       ·exact ⟨r1.2.2.1,r1.2.1,r1.2.2.2⟩
       ·first | exact r1.elim | (rw [if_neg k78] at r1;exact r1.elim)
     have hc':s'=[]∧n'=0∧c'=zeroN:=by
      split at q1
      ·exact ⟨q1.2.2.1,q1.2.1,q1.2.2.2⟩
      ·split at q1
       ·exact ⟨q1.2.2.1,q1.2.1,q1.2.2.2⟩
       ·first | exact q1.elim | (rw [if_neg k78] at q1;exact q1.elim)
     obtain ⟨rfl,rfl,rfl⟩:=hc;obtain ⟨rfl,rfl,rfl⟩:=hc';obtain ⟨e3,e4⟩:=fin hx hy (List.append_cancel_left h);exact ⟨by rw [e3],e4⟩
theorem Kbh {t u:RT} (ht:okR t) (hu:okR u) (h9:t.kind≠9) (h9':u.kind≠9) (h:Jrb t=Jrb u):t=u :=
 (Kb8 _ t u (Nat.le_refl _) ht hu h9 h9' [] [] (fun c h=>by cases h) (fun c h=>by cases h) (by rw [h])).1
end Go.LX
set_option maxHeartbeats 1000000
namespace Go.LX
open Go Go.RowKit Go.Proofs
attribute [local irreducible] Al SWP Bi
theorem J52 (y:YRow) (ls:List (List YRow)) (hl:ls.length≤10000) (hne:∀ v∈ls,v≠[]) (he:∀ v∈ls,v.length≤900000) (hs:(Jum [] ls ls.length).length≤900000):Det cx 42 [.p (.agg [.int .i64 y.kind,.int .i64 y.many,.str y.name,.str y.s,.int .i64 y.n,.int .i64 y.c.kind,.int .i64 y.c.many,.str y.c.name,.str y.c.s,.bool y.c.neg,.int .i64 y.c.e]),.p .snil,.p (.sl (Jqy ls))] [] (.p (.sl (rowL (Juz y [] ls)))) []:=by
 have hL:=J9f ⟨y.kind,ls.length,y.name,y.s,y.n,y.c⟩ (Jr3 [] ls ls.length) (by rw [Jvh];omega) (J3x hne (Nat.le_refl _)) (by rw [Jtw];exact hs);rw [Jtw] at hL;simp only at hL;rw [show Juz y [] ls=⟨y.kind,ls.length,y.name,y.s,y.n,y.c⟩ :: Jum [] ls ls.length from rfl];generalize rowL (⟨y.kind,ls.length,y.name,y.s,y.n,y.c⟩ :: Jum [] ls ls.length)=res at *
 (refine bgo Tryz.func42 ?_;simp only [go_sem,simprocAttr,Jsp]);refine Jqn (Js0 _ (i:=7) (d:=36) 40 1 (.inl de) rfl) ?_;simp only [St.nilOwn,St.nilReg,go_sem,simprocAttr,Jsp,Js5];refine SWP.loop (fun k:Nat=>⟨Ba 41 [(1,.p .snil),(3,.ptr 3 0 0),(7,.own 36 0 k),(13,.p (.sl (Jqy ls))),(14,.p (.int .i64 ls.length)),(15,.p (.int .i64 k))],[(36,.row 40 1 (Jqy (Jr3 [] ls k))),(3,.var 58 [.p (.int .i64 y.kind),.p (.int .i64 ls.length),.p (.str y.name),.p (.str y.s),.p (.int .i64 y.n),.p (.int .i64 y.c.kind),.p (.int .i64 y.c.many),.p (.str y.c.name),.p (.str y.c.s),.p (.bool y.c.neg),.p (.int .i64 y.c.e)])]⟩) (fun k=>k≤ls.length) (fun k=>ls.length - k) 0 (by rw [show Jqy (Jr3 [] ls 0)=[] from rfl];exact Jqb) (Nat.zero_le _) ?_;intro k hk;have hpl:(Jqy (Jr3 [] ls k)).length=k:=by rw [Jsp,Jvh]
 by_cases hlt:k<ls.length
 ·have c1:((k:Int)<(ls.length:Int))=True:=eq_true omg;obtain ⟨v,hq⟩:∃ v,ls[k]? = some v:=⟨_,List.getElem?_eq_getElem hlt⟩
  have hg:=Jvc hq;have hv:=he v (List.mem_of_getElem? hq);have hvn:=hne v (List.mem_of_getElem? hq);obtain ⟨r,rs,rfl⟩:=List.exists_cons_of_ne_nil hvn;rw [List.length_cons] at hv;rw [Jsk,J7n] at hg;have h6:∀ q∈[.int .i64 r.kind,.int .i64 r.many,.str r.name,.str r.s,.int .i64 r.n,.int .i64 r.c.kind,.int .i64 r.c.many,.str r.c.name,.str r.c.s,.bool r.c.neg,.int .i64 r.c.e] :: rowL rs,q.length=11:=by
   intro q hq;rcases List.mem_cons.1 hq with rfl | hq
   ·rfl
   ·exact Jrx rs q hq
  have hC:=Jxy _ (rowL rs) h6 (by rw [Jqc];omega);rw [Jqc] at hC;have htk:List.take rs.length (rowL rs)=rowL rs:=List.take_of_length_le (by rw [Jqc];omega);have hrl:(rowL rs).length=rs.length:=Jqc _;have w1:=wj1 (i:=k) omg;have hle:(rs.length≤rs.length)=True:=eq_true (Nat.le_refl _);have hd:ls.getD k []=r :: rs:=by rw [List.getD_eq_getElem?_getD,hq];rfl
  have c2:((k:Int)<0)=False:=eq_false omg;have hp:Juy [] ls k=r :: rs:=by
   unfold Juy;rw [if_neg sm,hd]
  have hx:Jqy (Jr3 [] ls (k+1))=Jqy (Jr3 [] ls k) ++ [[.sl ([.int .i64 r.kind,.int .i64 r.many,.str r.name,.str r.s,.int .i64 r.n,.int .i64 r.c.kind,.int .i64 r.c.many,.str r.c.name,.str r.c.s,.bool r.c.neg,.int .i64 r.c.e] :: rowL rs)]]:=by rw [Jun,Jv0,hp,Jsk];rfl
  (refine lws ?_;simp only [go_sem,simprocAttr,c1,hg]);(repeat' (first | ((refine Jqa (hC) ?_);simp only [go_sem,simprocAttr,c2,hpl,hrl,htk,hle,w1]) | fail));refine ⟨by simp,by omega,by omega,k+1,by omega,by omega,?_⟩;rw [hx];exact Jqb
 ·obtain rfl:k=ls.length:=by omega
  have c1:((ls.length:Int)<(ls.length:Int))=False:=eq_false omg;have hle:(ls.length≤ls.length)=True:=eq_true (Nat.le_refl _);have htk:List.take ls.length (Jqy (Jr3 [] ls ls.length))=Jqy (Jr3 [] ls ls.length):=List.take_of_length_le omg;(refine lws ?_;simp only [go_sem,simprocAttr,c1,hpl,hle,htk]);(repeat' (first | ((refine Jqa (hL) ?_);simp only [go_sem,simprocAttr]) | fail))
end Go.LX
set_option maxHeartbeats 2000000
namespace Go.LX
open Go Go.RowKit Go.Proofs
attribute [local irreducible] Al SWP Bi
def arrT (t:RT):RT:=.mk 5 [] 0 zeroN (.cons [] t .nil)
def tupT (t u:RT):RT:=.mk 4 [] 0 zeroN (.cons [] t (.cons [] u .nil))
theorem arr_ok {t:RT} (h:okR t) (h9:t.kind≠9):okR (arrT t):=by
 unfold arrT;rw [Jr5];refine ⟨(show Jqv _ [] 0 zeroN ((_:Nat):Int) from by simp only [RF.len];decide),⟨?_,fun h=>by omega⟩,fun h=>by omega,Jrv.2 ⟨h,Jsj⟩⟩;intro p hp;simp only [RF.list,List.mem_cons,List.not_mem_nil,or_false] at hp;subst hp;exact ⟨⟨fun h=>absurd h h9,fun h=>by omega⟩,fun _=>rfl,fun h=>by omega⟩
theorem tup_ok {t u:RT} (h:okR t) (h9:t.kind≠9) (g:okR u) (g9:u.kind≠9):okR (tupT t u):=by
 unfold tupT;rw [Jr5];refine ⟨(show Jqv _ [] 0 zeroN ((_:Nat):Int) from by simp only [RF.len];decide),⟨?_,fun h=>by omega⟩,fun h=>by omega,Jrv.2 ⟨h,Jrv.2 ⟨g,Jsj⟩⟩⟩;intro p hp;simp only [RF.list,List.mem_cons,List.not_mem_nil,or_false] at hp;rcases hp with rfl | rfl
 ·exact ⟨⟨fun h=>absurd h h9,fun h=>by omega⟩,fun _=>rfl,fun h=>by omega⟩
 ·exact ⟨⟨fun h=>absurd h g9,fun h=>by omega⟩,fun _=>rfl,fun h=>by omega⟩
theorem Kdk (t:RT):Jrb (arrT t)=[91] ++ Jrb t ++ [93]:=by
 unfold arrT;rw [Jth,Jqi,Jqi];rfl
theorem Kd2 (t u:RT):Jrb (tupT t u)=[116,117,112,40] ++ Jrb t ++ [44,32] ++ Jrb u ++ [41]:=by
 unfold tupT;rw [Jth,Jqi,Jqi,Jqi];simp [Jse,Jrn,Jrk,Jqq]
theorem Kdd (t:RT):Juz ⟨5,0,[],[],0,zeroN⟩ [] [t.enc []]=(arrT t).enc []:=J0g 5 0 [] 0 zeroN (l:=[([],t)]) sm
theorem Kdx (t u:RT):Juz ⟨4,0,[],[],0,zeroN⟩ [] [t.enc [],u.enc []]=(tupT t u).enc []:=J0g 4 0 [] 0 zeroN (l:=[([],t),([],u)]) sm
theorem Kfi {t:RT} (h:fitQ t):fitQ (arrT t):=by
 unfold arrT;rw [fitQ,Jsz,Jsz];exact ⟨⟨by simp,by simp [zeroN],by omega,by omega,by simp [zeroN],by simp [zeroN]⟩,by simp,h,trivial⟩
theorem Kev {t u:RT} (h:fitQ t) (g:fitQ u):fitQ (tupT t u):=by
 unfold tupT;rw [fitQ,Jsz,Jsz,Jsz];exact ⟨⟨by simp,by simp [zeroN],by omega,by omega,by simp [zeroN],by simp [zeroN]⟩,by simp,h,by simp,g,trivial⟩
theorem Kfe (t:RT):((arrT t).enc []).length=(t.enc []).length+1:=by
 unfold arrT;rw [Jqh,Jqe,Jq5];simp
theorem Kex (t u:RT):((tupT t u).enc []).length=(t.enc []).length+(u.enc []).length+1:=by
 unfold tupT;rw [Jqh,Jqe,Jqe,Jq5];simp
theorem J66:∀ {a b c d:RF},a.app b=c.app d→a.len=c.len→a=c∧b=d
 | .nil,b,.nil,d,h,_=>⟨rfl,h⟩
 | .nil,_,.cons _ _ _,_,_,h=>by simp [RF.len] at h
 | .cons _ _ _,_,.nil,_,_,h=>by simp [RF.len] at h
 | .cons nm t a,b,.cons nm' t' c,d,h,hl=>by
  rw [RF.app,RF.app] at h;injection h with h1 h2 h3
  obtain ⟨rfl,rfl⟩:=J66 (a:=a) (b:=b) (c:=c) (d:=d) h3 (by simpa [RF.len] using hl);exact ⟨by rw [h1,h2],rfl⟩
theorem J3q:∀ (n:Nat) {F G:RF},F.enc.length≤n→F.len=G.len→F.enc=G.enc→F=G
 | _,.nil,.nil,_,_,_=>rfl
 | _,.nil,.cons _ _ _,_,h,_=>by simp [RF.len] at h
 | _,.cons _ _ _,.nil,_,h,_=>by simp [RF.len] at h
 | 0,.cons nm t r,.cons _ _ _,h,_,_=>by
  have:=Jrs t nm;rw [Jqe,List.length_append] at h;omega
 | n+1,.cons nm (.mk k s g e kids) r,.cons nm' (.mk k' s' g' e' kids') r',h,hl,he=>by
  rw [Jqe,Jqh,List.length_append,List.length_cons] at h;rw [Jqe,Jqe,Jqh,Jqh,List.cons_append,List.cons_append] at he;injection he with h1 h2
  injection h1 with g1 g2 g3 g4 g5 g6
  rw [← Jqk,← Jqk] at h2;simp only [RF.len] at hl;have hk:kids.len=kids'.len:=by omega
  have:=J3q n (F:=kids.app r) (G:=kids'.app r') (by rw [Jqk,List.length_append];omega) (by rw [Jry,Jry];omega) h2;obtain ⟨rfl,rfl⟩:=J66 this hk;rw [g1,g3,g4,g5,g6]
theorem Kb0 {t u:RT} {a b:List UInt8} (h:t.enc a=u.enc b):a=b∧t=u:=by
 have:=J3q (RF.cons a t .nil).enc.length (F:=.cons a t .nil) (G:=.cons b u .nil) (Nat.le_refl _) rfl (by rw [Jqe,Jqe,h]);injection this with h1 h2 _
 exact ⟨h1,h2⟩
theorem Kbe (v u:List YRow) (hv:FiFit v) (hu:FiFit u):Det cx 12 [.p (.sl (rowL v)),.p (.sl (rowL u))] [] (.p (.bool true)) []:=by
 have hS1:=Jx1 v 40 de (by have:=hv.len;omega) hv.row;have hS2:=Jx1 u 40 de (by have:=hu.len;omega) hu.row;cases b1:Jsq v 40 with
 | false =>
  rw [b1] at hS1;(refine bgo Tryz.func12 ?_;simp only [go_sem,simprocAttr]);(repeat' (first | ((first | (refine Jqa (hS1) ?_)|(refine Jqa (Jqx) ?_));simp only [go_sem,simprocAttr]) | fail))
 | true =>
 rw [b1] at hS1;cases b2:Jsq u 40 with
 | false =>
  rw [b2] at hS2;(refine bgo Tryz.func12 ?_;simp only [go_sem,simprocAttr]);(repeat' (first | ((first | (refine Jqa (hS1) ?_)|(refine Jqa (hS2) ?_)|(refine Jqa (Jqx) ?_));simp only [go_sem,simprocAttr]) | fail))
 | true =>
 rw [b2] at hS2;obtain ⟨hl1,hrow1⟩:=Jtp hv b1;obtain ⟨hl2,hrow2⟩:=Jtp hu b2;have hR1:=Jsm v omg (Jsb hrow1);have hR2:=Jsm u omg (Jsb hrow2);cases b3:Jrr v with
 | false =>
  rw [b3] at hR1;(refine bgo Tryz.func12 ?_;simp only [go_sem,simprocAttr]);(repeat' (first | ((first | (refine Jqa (hS1) ?_)|(refine Jqa (hS2) ?_)|(refine Jqa (hR1) ?_)|(refine Jqa (Jqx) ?_));simp only [go_sem,simprocAttr]) | fail))
 | true =>
 rw [b3] at hR1;cases b4:Jrr u with
 | false =>
  rw [b4] at hR2;(refine bgo Tryz.func12 ?_;simp only [go_sem,simprocAttr]);(repeat' (first | ((first | (refine Jqa (hS1) ?_)|(refine Jqa (hS2) ?_)|(refine Jqa (hR1) ?_)|(refine Jqa (hR2) ?_)|(refine Jqa (Jqx) ?_));simp only [go_sem,simprocAttr]) | fail))
 | true =>
 rw [b4] at hR2;obtain ⟨t,ho,h9,rfl,htl,hf,_⟩:=Jud hv b1 b3;obtain ⟨w,go,g9,rfl,gtl,gf,_⟩:=Jud hu b2 b4;have hT1:=Jvj 10000 (Nat.le_refl _) t [] ho h9 hf omg;have hT2:=Jvj 10000 (Nat.le_refl _) w [] go g9 gf omg;have hSm:=J38 (t.enc []) (w.enc []) omg omg;have heq:(t.enc []=w.enc [])=(Jrb t=Jrb w):=propext ⟨fun h=>by rw [(Kb0 h).2],fun h=>by rw [Kbh ho go h9 g9 h]⟩;have hd:decide (t.enc []=w.enc [])=decide (Jrb t=Jrb w):=decide_eq_decide.2 (by rw [heq]);rw [hd] at hSm;have hal:=Kfe t;have htl2:=Kex t w;have qa:∀ v∈[t.enc []],v≠[]∧v.length≤900000:=by
  intro v hv;simp only [List.mem_cons,List.not_mem_nil,or_false] at hv;subst hv;exact ⟨fun e=>by have:=Jrs t [];rw [e] at this;simp at this,by omega⟩
 have qb:∀ v∈[t.enc [],w.enc []],v≠[]∧v.length≤900000:=by
  intro v hv;simp only [List.mem_cons,List.not_mem_nil,or_false] at hv;rcases hv with rfl | rfl
  ·exact ⟨fun e=>by have:=Jrs t [];rw [e] at this;simp at this,by omega⟩
  ·exact ⟨fun e=>by have:=Jrs w [];rw [e] at this;simp at this,by omega⟩
 have ea:=Kdd t;have eb:=Kdx t w;have hMa:=J52 ⟨5,0,[],[],0,zeroN⟩ [t.enc []] sm (fun v h=>(qa v h).1) (fun v h=>(qa v h).2) (by have:=congrArg List.length ea;unfold Juz at this;rw [List.length_cons] at this;omega);have hMb:=J52 ⟨4,0,[],[],0,zeroN⟩ [t.enc [],w.enc []] sm (fun v h=>(qb v h).1) (fun v h=>(qb v h).2) (by have:=congrArg List.length eb;unfold Juz at this;rw [List.length_cons] at this;omega);rw [ea,show Jqy [t.enc []]=[[.sl (rowL (t.enc []))]] from rfl] at hMa;rw [eb,show Jqy [t.enc [],w.enc []]=[[.sl (rowL (t.enc []))],[.sl (rowL (w.enc []))]] from rfl] at hMb;have oka:=arr_ok ho h9;have okb:=tup_ok ho h9 go g9;have fa:=Kfi hf;have fb:=Kev hf gf;have hRa:=Jsm ((arrT t).enc []) omg (J0c _ [] sm fa);have hRb:=Jsm ((tupT t w).enc []) omg (J0c _ [] sm fb);have a9:(arrT t).kind≠9:=show (5:Int)≠9 by decide
 have b9:(tupT t w).kind≠9:=show (4:Int)≠9 by decide
 rw [J7w oka a9] at hRa;rw [J7w okb b9] at hRb;have hTa:=Jvj 10000 (Nat.le_refl _) (arrT t) [] oka a9 fa omg;have hTb:=Jvj 10000 (Nat.le_refl _) (tupT t w) [] okb b9 fb omg;rw [Kdk] at hTa;rw [Kd2] at hTb;have l1:=Ju3 t hf [];have l2:=Ju3 w gf [];clear hd heq ea eb oka okb fa fb qa qb hf gf ho go hrow1 hrow2 hv hu b1 b2 b3 b4 a9 b9;generalize rowL ((arrT t).enc [])=ra at *
 generalize rowL ((tupT t w).enc [])=rb at *
 generalize rowL (t.enc [])=rt at *
 generalize rowL (w.enc [])=rw at *
 generalize Jrb t=x at *
 generalize Jrb w=y at *
 by_cases hxy:x=y
 ·subst hxy;rw [decide_eq_true rfl] at hSm;(refine bgo Tryz.func12 ?_;simp only [go_sem,simprocAttr]);(repeat' (first | (refine Jqd ?_)|((first | (refine Jqa (hS1) ?_)|(refine Jqa (hS2) ?_)|(refine Jqa (hR1) ?_)|(refine Jqa (hR2) ?_)|(refine Jqa (hT1) ?_)|(refine Jqa (hT2) ?_)|(refine Jqa (hSm) ?_)|(refine Jqa (hMa) ?_)|(refine Jqa (hMb) ?_)|(refine Jqa (hRa) ?_)|(refine Jqa (hRb) ?_)|(refine Jqa (hTa) ?_)|(refine Jqa (hTb) ?_)|(refine Jqa (Jqx) ?_));simp only [go_sem,simprocAttr]) | fail))
  all_goals (simp only [List.length_append,List.length_cons,List.length_nil];omega)
 ·rw [decide_eq_false hxy] at hSm;have c1:=eq_false hxy;(refine bgo Tryz.func12 ?_;simp only [go_sem,simprocAttr]);(repeat' (first | (refine Jqd ?_)|((first | (refine Jqa (hS1) ?_)|(refine Jqa (hS2) ?_)|(refine Jqa (hR1) ?_)|(refine Jqa (hR2) ?_)|(refine Jqa (hT1) ?_)|(refine Jqa (hT2) ?_)|(refine Jqa (hSm) ?_)|(refine Jqa (hMa) ?_)|(refine Jqa (hMb) ?_)|(refine Jqa (hRa) ?_)|(refine Jqa (hRb) ?_)|(refine Jqa (hTa) ?_)|(refine Jqa (hTb) ?_)|(refine Jqa (Jqx) ?_));simp only [go_sem,simprocAttr,c1]) | fail))
  all_goals (simp only [List.length_append,List.length_cons,List.length_nil];omega)
end Go.LX
