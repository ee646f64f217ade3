/- Filters, the program: sorted. -/
import Derived.Test.YtaghbedfogiopaaGreatDoorLxY
set_option linter.unusedSimpArgs false
set_option linter.unusedVariables false
set_option linter.unusedSectionVars false
set_option linter.unnecessarySimpa false
set_option maxRecDepth 100000
set_option maxHeartbeats 2000000
namespace Go.LX
open Go Go.RowKit Go.Proofs
attribute [local irreducible] Al SWP Bi
theorem J9m {grp:Bool} {s:List UInt8} {v:Tree} (hk:v.kind=5):Jte grp s v=match Jru (Je s).1 (Jqe v) with
  | .error e=>.error e
  | .ok ks=>.ok (if grp=true then listT ((Jri ks).map fun g=>listT (Jqo (Jqe v) g)) else listT (Jqo (Jqe v) (Jra ks))):=by unfold Jte;rw [if_pos hk] <;> rfl
theorem J4j (op m:Int) (nm s:List UInt8) (n:Int) (c:Node) (v:Tree) (hop:op=12\/op=13) (hs:s.length<=1000000) (ok:okT v) (hv:(v.enc []).length<=600000000000):Det cx 43 [.p (.agg [.int .i64 op,.int .i64 m,.str nm,.str s,.int .i64 n,.int .i64 c.kind,.int .i64 c.many,.str c.name,.str c.s,.bool c.neg,.int .i64 c.e]),.p (.sl (valL (v.enc [])))] [] (getR (Jte (decide (op=12)) s v)) []:=by
 have hsz:=Jq1 v;have hkk:=Jyu ok;have hsl:=Jrh (Jqe v);by_cases hk:v.kind=5
 ·have hP:=Jwu v omg;obtain ⟨r,hg0⟩:=row0 v;rw [hk] at hg0;have hpt:=Jz1 s hs;obtain ⟨hpl,hpo⟩:=Jvs s;have hF:=fun t (ht:t∈Jqe v)=>J40 (Je s).1 t omg hpo (hkk t ht) (by have:=Jr0 ht;omega)
  have hkl:∀ t∈Jqe v,(t.enc []).length<=600000000000:=fun t ht=>by have:=Jr0 ht;omega
  have hFl:∀ (i:Nat) (t:Tree),(Jqe v)[i]? = some t->Det cx 20 [.p (.sl (Bb (Je s).1)),.p (.sl (valL (t.enc [])))] [] (getR (Jrd (Je s).1 t)) []:=fun i t h=>hF t (Eae h)
  have hres:∀ ks,Jru (Je s).1 (Jqe v)=.ok ks->J4h ks:=fun ks hke=>by
   obtain ⟨okk,hkl2,hks⟩:=Jzo (Jyu ok) hke;have hks:=hks 600000000000 fun t ht=>hkl t ht
   exact ⟨okk,by omega,fun t ht=>by have:=hks t ht;omega⟩
  have hsE:=J9m (grp:=decide (op=12)) (s:=s) hk;generalize hvl:valL (v.enc [])=V at *
  generalize Jqe v=l at *
  generalize hpp:(Je s).1=P at *
  clear hF;(refine bgo Tryz.func43 ?_;simp only [go_sem,simprocAttr,hg0]);(repeat' (first|((refine Jqa hP ?_);simp only [go_sem,simprocAttr,Jqf])|fail));refine Jqg (Jrw _ (i:=7) (d:=42) 25 1 (.inl de) rfl) ?_;simp only [St.nilOwn,St.nilReg,go_sem,simprocAttr,hg0,Jqf];refine SWP.loop (fun x:Nat×List Tree=>⟨Ba 67 [(1,.p (.sl V)),(2,.ptr 2 0 0),(6,.p (.sl (Jqd l))),(7,.own 42 0 x.1),(22,.p (.sl (Jqd l))),(23,.p (.int .i64 l.length)),(24,.p (.int .i64 x.1))],[(42,.row 25 1 (Jqd x.2)),(2,.var 38 [.p (.int .i64 op),.p (.int .i64 m),.p (.str nm),.p (.str s),.p (.int .i64 n),.p (.int .i64 c.kind),.p (.int .i64 c.many),.p (.str c.name),.p (.str c.s),.p (.bool c.neg),.p (.int .i64 c.e)])]⟩) (fun x=>x.1<=l.length/\x.2.length=x.1/\Jru P l=preK x.2 (Jru P (l.drop x.1))) (fun x=>l.length - x.1) (0,[]) Jqc ⟨Eav _,rfl,by rw [Ebi];cases Jru P l <;> rfl⟩ ?_;rintro ⟨i,ks⟩ ⟨h1,h2,h3⟩;simp only at h1 h2 h3;by_cases hlt:i<l.length
  ·have c1:((i:Int)<(l.length:Int))=True:=eq_true omg;obtain ⟨t,ht⟩:∃ t,l[i]? = some t:=⟨_,Eaa hlt⟩
   have hgt:=Jq5 ht;have hF:=hFl i t ht;have hd:l.drop i=t :: l.drop (i+1):=by
    obtain ⟨a,b⟩:=Eab.1 ht;rw [Eax a,b]
   rw [hd] at h3;cases hf:Jrd P t with
   | error e =>
    have h5:=Jsp hf;subst h5;rw [hf,getR] at hF;rw [Jru,hf] at h3;simp only [preK] at h3;rw [hsE,h3,getR];(refine lws ?_;simp only [go_sem,simprocAttr,c1,hgt]);(repeat' (first|((first|refine Jqa hpt ?_|refine Jqa hF ?_);simp only [go_sem,simprocAttr])|fail))
    all_goals rfl
   | ok u =>
    rw [hf,getR] at hF;rw [J3v hf] at h3;have ha:Jqd ks ++ [[.sl (valL (u.enc []))]]=Jqd (ks ++ [u]):=(Jrl ks [u]).symm;have hln:(Jqd ks).length=i:=by rw [Jqf,h2]
    (refine lws ?_;simp only [go_sem,simprocAttr,c1,hgt,wj1 (i:=i) omg]);(repeat' (first|(refine And.intro (by first|(simp;done)|(simp;omega)) ?_)|refine Jqj ?_|((first|refine Jqa hpt ?_|refine Jqa hF ?_);simp only [go_sem,simprocAttr,ha,hln,wj1 (i:=i) omg])|fail))
    all_goals exact ⟨(i+1,ks ++ [u]),⟨by simp only;omega,by simp only [Eac,List.length_singleton];omega,h3⟩,by simp only;omega,Jqc⟩
  ·obtain rfl:i=l.length:=by omega
   have c1:((l.length:Int)<(l.length:Int))=False:=eq_false omg;rw [Ear (Eai _),Jru,preK,Eaz] at h3;have hsk:=hres ks h3;have okk:=hsk.1;have ht1:(Jqd ks).take l.length=Jqd ks:=Ead (by rw [Jqf];omega);have hle1:(l.length<=(Jqd ks).length)=True:=eq_true (by rw [Jqf];omega);have hel:=Jvr ks;rcases hop with rfl | rfl
   ·have hG:=Kc4 ks hsk;have hgsz:=Jw1 (l:=l) okk h2;have hgm:∀ g∈Jri ks,(∀ i∈g,i<l.length)/\g.length<=l.length/\Jqn (Jqo l g)<=2 * Jqn l:=fun g hg=>by
     have hfl:=Jv2 (Jt6 okk);have hin:∀ i∈g,i∈Jra ks:=fun i hi=>by rw [<- hfl];exact List.mem_flatten.2 ⟨g,hg,hi⟩
     refine ⟨fun i hi=>by have:=Jsz.1 (hin i hi);omega,?_,?_⟩
     ·have h1:=List.length_flatten (L:=Jrp (Jrj ks (Jra ks)));rw [hfl,Jsc] at h1;have h2:=Jsk (Eap.2 ⟨g,hg,rfl⟩:g.length∈(Jrp (Jrj ks (Jra ks))).map List.length);omega
     ·have h2:=Jr0 (Eap.2 ⟨g,hg,rfl⟩:listT (Jqo l g)∈(Jri ks).map fun g=>listT (Jqo l g));rw [Jsb] at h2;omega
    have hgl:(Jri ks).length<=2 * Jqn l:=by
     have:=Jrh ((Jri ks).map fun g=>listT (Jqo l g));rw [Ea9] at this;omega
    have hL:=Jtp ((Jri ks).map fun g=>listT (Jqo l g)) omg;rw [hsE,h3,getR];simp only [decide_true,if_true];generalize Jri ks=G at *
    (refine lws ?_;simp only [go_sem,simprocAttr,Jqf,c1,ht1,h2,Eai]);(repeat' (first|((refine Jqa hG ?_);simp only [go_sem,simprocAttr,Js8])|fail));refine Jqg (Jrw _ (i:=12) (d:=63) 25 1 (.inl de) rfl) ?_;simp only [St.nilOwn,St.nilReg,go_sem,simprocAttr,hg0,Jqf,c1,ht1,hle1,h2,Eai,if_true,if_false,Js8];refine SWP.loop (fun k:Nat=>⟨Ba 67 [(6,.p (.sl (Jqd l))),(12,.own 63 0 k),(52,.p (.sl (Jro G))),(53,.p (.int .i64 G.length)),(54,.p (.int .i64 k))],[(63,.row 25 1 (Jqd ((G.take k).map fun g=>listT (Jqo l g))))]⟩) (fun k=>k<=G.length) (fun k=>G.length - k) 0 Jqc (Eav _) ?_;rintro k hk';by_cases hlt:¬ k<G.length
    ·obtain rfl:k=G.length:=by omega
     have c3:((G.length:Int)<(G.length:Int))=False:=eq_false omg;have ht4:G.take G.length=G:=Ead (Eai _);have ht5:(Jqd (G.map fun g=>listT (Jqo l g))).take G.length=Jqd (G.map fun g=>listT (Jqo l g)):=Ead sm;have hln:(Jqd (G.map fun g=>listT (Jqo l g))).length=G.length:=by simp
     (refine lws ?_;simp only [go_sem,simprocAttr,Eai,c3,ht4,ht5,hln]);(repeat' (first|((refine Jqa hL ?_);simp only [go_sem,simprocAttr])|fail))
    ·have hlt:=Ea1.1 hlt;have c3:((k:Int)<(G.length:Int))=True:=eq_true omg;obtain ⟨g,hg⟩:∃ g,G[k]? = some g:=⟨_,Eaa hlt⟩
     have hgg:=J1n hg;obtain ⟨m1,m2,m3⟩:=hgm g (Eae hg);have hPk:=J4c l g m1 omg omg;have hpl2:(Jqd ((G.take k).map fun g=>listT (Jqo l g))).length=k:=by rw [Jqf,Ea9,Eaw];omega
     have htk:Jqd ((G.take (k+1)).map fun g=>listT (Jqo l g))=Jqd ((G.take k).map fun g=>listT (Jqo l g)) ++ [[.sl (valL ((listT (Jqo l g)).enc []))]]:=by
      rw [Ea8,hg,Option.toList_some,Ebu,Jrl];rfl
     (refine lws ?_;simp only [go_sem,simprocAttr,c3,hgg,wj1 (i:=k) omg]);(repeat' (first|(refine And.intro (by first|(simp;done)|(simp;omega)) ?_)|refine Jqj ?_|((refine Jqa hPk ?_);simp only [go_sem,simprocAttr,Eai,hpl2,wj1 (i:=k) omg])|fail));exact ⟨k+1,by omega,by omega,by rw [htk];exact Jqc⟩
   ·have hS:=Kbp ks hsk;have hPk:=J4c l (Jra ks) (fun i hi=>by have:=Jsz.1 hi;omega) (by rw [Jsc];omega) (by rw [Jxo h2];omega);rw [hsE,h3,getR];(refine lws ?_;simp only [go_sem,simprocAttr,Jqf,c1,ht1,h2,Eai]);(repeat' (first|((first|refine Jqa hS ?_|refine Jqa hPk ?_);simp only [go_sem,simprocAttr])|fail))
 ·rw [J7i hk,getR];obtain ⟨k,s',g,e,kids⟩:=v;have c1:(k=5)=False:=eq_false hk;(refine bgo Tryz.func43 ?_;simp only [go_sem,simprocAttr,Cc,c1,not_false_eq_true])
  all_goals rfl
end Go.LX
namespace Go.LX
open Go
def nmT (s:List UInt8):List UInt8:=if isWd s then s else refQ s
def scalT (c:Node):List UInt8:=if c.kind=0 then [110,117,108,108] else if c.kind=1 then [102,97,108,115,101] else if c.kind=2 then [116,114,117,101] else if c.kind=3 then Keq c else refQ c.s
def signT (n:Int):List UInt8:=if n=0 then [61,61] else if n=1 then [33,61] else if n=2 then [60] else if n=3 then [60,61] else if n=4 then [62] else [62,61]
def callN (op:Int):List UInt8:=if op=5 then [109,97,112] else if op=6 then [109,97,112,95,118,97,108,117,101,115] else if op=7 then [115,101,108,101,99,116] else if op=12 then [103,114,111,117,112,95,98,121] else if op=13 then [115,111,114,116,95,98,121] else if op=15 then [100,101,108] else []
def inBr (k:Int) (x:List UInt8):List UInt8:=if k=4\/k=17\/k=18 then 40 :: (x ++ [41]) else x
def Kej (sep:List UInt8):List (List UInt8)->List UInt8
 | []=>[]
 | [x]=>x
 | x :: y :: l=>x ++ sep ++ Kej sep (y :: l)
abbrev PTx:=List UInt8×Int×List UInt8
def oneT (op:Int) (p:PTx):List UInt8:=if op=8 then nmT p.1 ++ [58,32] ++ inBr p.2.1 p.2.2 else inBr p.2.1 p.2.2
def Kbl (op:Int) (l:List PTx) (sep:List UInt8):List UInt8:=Kej sep (l.map (oneT op))
def Kdq:List PTx->List UInt8
 | []=>[]
 | p :: _=>p.2.2
def qtextK (op:Int) (s:List UInt8) (n:Int) (c:Node) (l:List PTx):List UInt8 :=
 if op=0 then [46]
 else if op=1 then 46 :: nmT s
 else if op=2 then [46,91] ++ Lib.itoa n ++ [93]
 else if op=3 then [46,91] ++ Lib.itoa n ++ [58,93]
 else if op=4 then (match l with
  | [p,q]=>inBr p.2.1 p.2.2 ++ [32,124,32] ++ q.2.2
  | _=>[])
 else if op=8 then 123 :: (Kbl op l [44,32] ++ [125])
 else if op=9 then 91 :: (Kbl op l [44,32] ++ [93])
 else if op=10 then [116,111,95,101,110,116,114,105,101,115]
 else if op=11 then [102,114,111,109,95,101,110,116,114,105,101,115]
 else if op=14 then [114,101,118,101,114,115,101]
 else if op=16 then s ++ [32] ++ signT n ++ [32] ++ scalT c
 else if op=17 then Kbl op l [32,97,110,100,32]
 else if op=18 then Kbl op l [32,111,114,32]
 else if op=19 then 40 :: (Kdq l ++ [32,124,32,110,111,116,41])
 else callN op ++ [40] ++ (if l=[] then s else Kdq l) ++ [41]
mutual
def qtext:RT->List UInt8
 | .mk k s n c kids=>qtextK k s n c (Kff kids)
def Kff:RF->List PTx
 | .nil=>[]
 | .cons nm t r=>(nm,t.kind,qtext t) :: Kff r
end
def sumT (l:List (List UInt8)):Nat:=(l.map List.length).sum
theorem repL_len (n:Nat):(Lib.repeatL [48] n).length=n:=by rw [Lib.repeatL_length];simp
def sumP (l:List PTx):Nat:=(l.map fun p=>p.2.2.length).sum
def two (a b:RT):RT:=.mk 4 [] 0 Juf (.cons [] a (.cons [] b .nil))
end Go.LX
namespace Go.LX
open Go Go.RowKit Go.Proofs
attribute [local irreducible] Al SWP Bi
theorem Ke1 (x:Step):Jrc x nilT=.ok nilT:=by unfold Jrc;exact if_pos rfl
theorem Kfz {l:List KT} {x:Step} (hp:x.part=false):Jrc x (nd 6 l)=.ok ((Ch x.name l).getD nilT):=by
 obtain ⟨b,nm,n⟩:=x;simp only at hp;subst hp;unfold nd;rw [Jw4,Hd]
theorem Keb {l:List KT} {x:Step} (hp:x.part=false):J01 (nd 6 l) x=nd 6 (A8 x.name l):=by
 unfold nd;rw [J01,if_neg (by rw [hp];decide),Hd];rfl
theorem Kd0 {x:Step} {p:List Step} {t:Tree}:delT (x :: p) t=if t.kind=0 then .ok t else match inT t x with
  | .error e=>if e=6 then .ok t else .error 5
  | .ok u=>if p=[] then .ok (J01 t x) else match delT p u with
   | .error e=>.error e
   | .ok w=>setT [x] t w:=by rw [delT];rfl
def fldA:RT:=.mk 1 [97] 0 Juf .nil
def cmpA:RT:=.mk 16 [46,97] 5 ⟨3,0,[],[49],false,0⟩ .nil
def srtQ (k:Int) (s:List UInt8):RT:=.mk k s 0 Juf .nil
theorem Khz (v:Tree):Jql fldA v=Jrc ⟨false,[97],0⟩ v:=by unfold fldA;rw [Jww];rfl
theorem Khs (s:List UInt8) (v:Tree):Jql (srtQ 13 s) v=Jte false s v:=by unfold srtQ;rw [Jww];rfl
theorem Kjc (v:Tree) (hg:GT v) (hv:(v.enc []).length<=1000):Det cx 12 [.p (.sl (rowL (fldA.enc []))),.p (.sl (valL (v.enc [])))] [] (getR (Jql fldA v)) []:=by
 have hT:=J1o [] 1 [97] 0 Juf .nil de;have hF:=Kbd ⟨false,[97],0⟩ v de hg.1 omg;have hg0:(rowL ((RT.mk 1 [97] 0 Juf .nil).enc []))[0]? = some [.int .i64 1,.int .i64 0,.str [],.str [97],.int .i64 0,.int .i64 0,.int .i64 0,.str [],.str [],.bool false,.int .i64 0]:=rfl;rw [Khz];unfold fldA;rw [Jqz] at hF ⊢;generalize rowL ((RT.mk 1 [97] 0 Juf .nil).enc [])=rows at *
 (refine bgo Tryz.func12 ?_;simp only [go_sem,simprocAttr,hg0]);(repeat' (first|((first|refine Jqa hT ?_|refine Jqa hF ?_);simp only [go_sem,simprocAttr])|fail))
theorem ev_cmp (v:Tree) (hg:GT v) (hv:(v.enc []).length<=1000):Det cx 18 [.p (.sl (rowL (cmpA.enc []))),.p (.sl (valL (v.enc [])))] [] (.tup [.bool (resB (Jrf cmpA v)),.int .i64 (resC (Jrf cmpA v))]) []:=by
 have hcp:Js2 ⟨3,0,[],[49],false,0⟩:=by decide +kernel
 have hN:=Kbg hcp;obtain ⟨hpl,hpo⟩:=Jvs [46,97];have hP:=Jz1 [46,97] de;have hF:=J40 (Je [46,97]).1 v omg hpo hg.1 omg;have hR:Jrf cmpA v=match Jrd (Je [46,97]).1 v with
  | .error e=>.error e
  | .ok x=>.ok (J0l 5 (cmpT x (ndT ⟨3,0,[],[49],false,0⟩))):=by
  unfold cmpA;rw [Jwx];unfold J15;rw [if_pos rfl];cases Jrd (Je [46,97]).1 v <;> rfl
 have hg0:(rowL (cmpA.enc []))[0]? = some [.int .i64 16,.int .i64 0,.str [],.str [46,97],.int .i64 5,.int .i64 3,.int .i64 0,.str [],.str [49],.bool false,.int .i64 0]:=rfl;rw [hR];cases hfo:Jrd (Je [46,97]).1 v with
 | error e =>
  rw [hfo,getR] at hF;have:=Jsp hfo;subst this;simp only [resB,resC];generalize rowL (cmpA.enc [])=rows at *
  generalize (Je [46,97]).1=P at *
  (refine bgo Tryz.func18 ?_;simp only [go_sem,simprocAttr,hg0]);(repeat' (first|((first|refine Jqa hP ?_|refine Jqa hF ?_);simp only [go_sem,simprocAttr])|fail))
  all_goals rfl
 | ok x =>
  rw [hfo,getR] at hF;have hC:=Ke2 _ x (ndT ⟨3,0,[],[49],false,0⟩) (Eai _) (Jxm hg.1 hfo) (J9y hcp) (by have:=Jxh hfo;omega) (by rw [Kbb];omega);have hS:=Khn 5 (cmpT x (ndT ⟨3,0,[],[49],false,0⟩)) omg omg;rw [hN] at hC;simp only [resB,resC];generalize rowL (cmpA.enc [])=rows at *
  generalize (Je [46,97]).1=P at *
  (refine bgo Tryz.func18 ?_;simp only [go_sem,simprocAttr,hg0]);(repeat' (first|((first|refine Jqm ?_|refine Jqa hP ?_|refine Jqa hF ?_|refine Jqb hC ?_|refine Jqb hS ?_);simp only [go_sem,simprocAttr])|fail))
theorem Kje (s:List UInt8) (hs:s.length<=1000) (v:Tree) (hg:GT v) (hv:(v.enc []).length<=1000):Det cx 12 [.p (.sl (rowL ((srtQ 13 s).enc []))),.p (.sl (valL (v.enc [])))] [] (getR (Jql (srtQ 13 s) v)) []:=by
 have hT:=J1o [] 13 s 0 Juf .nil (by simp [RF.enc]);have hF:=J4j 13 RF.nil.len [] s 0 Juf v (.inr rfl) omg hg.1 omg;rw [show decide ((13:Int)=12)=false from rfl] at hF;have hg0:(rowL ((RT.mk 13 s 0 Juf .nil).enc []))[0]? = some [.int .i64 13,.int .i64 RF.nil.len,.str [],.str s,.int .i64 0,.int .i64 Juf.kind,.int .i64 Juf.many,.str Juf.name,.str Juf.s,.bool Juf.neg,.int .i64 Juf.e]:=by rw [Jqs];rfl
 rw [Khs];unfold srtQ;rw [Jqz] at hF ⊢;generalize rowL ((RT.mk 13 s 0 Juf .nil).enc [])=rows at *
 (refine bgo Tryz.func12 ?_;simp only [go_sem,simprocAttr,hg0]);(repeat' (first|((first|refine Jqa hT ?_|refine Jqa hF ?_);simp only [go_sem,simprocAttr])|fail))
attribute [go_sem] Tryz.ntmps10 Tryz.results10 Tryz.ntmps11 Tryz.results11
def oneA:Tree:=.mk 3 [49] false 0 .nil
def objA:Tree:=nd 6 [([97],oneA)]
theorem Kgy:okT oneA:=by
 unfold oneA;rw [Lu];exact ⟨by decide,Sb 3,I6⟩
theorem Ka2:GT oneA:=⟨Kgy,by
 unfold oneA FitT;intro n hn;rw [A6,Bl] at hn;simp only [Eaj,Ebc,or_false] at hn;subst hn;exact ⟨by decide,by decide,by decide,by decide⟩⟩
theorem J6f:GT objA:=J49 (List.pairwise_singleton _ _) fun p hp=>by
 simp only [Eaj,Ebc,or_false] at hp;subst hp;exact ⟨(by decide:valid [97]=true),(by decide:(1:Nat)<=1000000),Ka2⟩
theorem Jsw:Det cx 11 [] [] (.p (.bool true)) []:=by
 have hO:=Zc [([97],oneA)] de (by intro p hp;simp only [Eaj,Ebc,or_false] at hp;subst hp;exact (by decide:(1:Nat)<=1000000));have hok:M3 [([97],oneA)]=true:=by
  unfold M3;rw [decide_eq_true_eq];refine ⟨fun p hp=>?_,by simp⟩;simp only [Eaj,Ebc,or_false] at hp;subst hp;exact (by decide:valid [97]=true)
 rw [objR,if_pos hok,show Lp [([97],oneA)]=[([97],oneA)] from rfl,show Tree.mk 6 [] false 0 (A1 [([97],oneA)])=objA from rfl,show Bd [([97],oneA)]=[[.str [97]]] from rfl,show A4 [([97],oneA)]=[[.sl (valL (oneA.enc []))]] from rfl] at hO;have e1:=Kjc objA J6f de;have e2:=Kjc nilT Jwp de;have e3:=Kjc oneA Ka2 de;have x1:Jql fldA objA=.ok oneA:=by rw [Khz];unfold objA;rw [Kfz rfl];rfl
 have x2:Jql fldA nilT=.ok nilT:=by rw [Khz];exact Ke1 _
 have x3:Jql fldA oneA=.error 5:=by rw [Khz];exact Jyn de de
 rw [x1,getR] at e1;rw [x2,getR] at e2;rw [x3,getR] at e3;have hH:=ev_cmp objA J6f de;have hB:resB (Jrf cmpA objA)=true:=by decide +kernel
 have hC:resC (Jrf cmpA objA)=0:=by decide +kernel
 rw [hB,hC] at hH;have hD:=Jz5 [⟨false,[97],0⟩] objA de (fun x hx=>by
  simp only [Eaj,Ebc,or_false] at hx;subst hx;exact ⟨rfl,(by decide:valid [97]=true)⟩) J6f de
 have x4:delT [⟨false,[97],0⟩] objA=.ok (nd 6 []):=by
  rw [Kd0,if_neg (show ¬ objA.kind=0 from (by decide:¬ (6:Int)=0)),show inT objA ⟨false,[97],0⟩=.ok oneA from by unfold objA;rw [Vv rfl];rfl];simp only;rw [if_pos trivial];unfold objA;rw [Keb rfl];rfl
 rw [x4,getR] at hD;have hS:=E2 (oneA.enc []) (oneA.enc []) de de;rw [decide_eq_true rfl] at hS;have r1:rowL (fldA.enc [])=[[.int .i64 1,.int .i64 0,.str [],.str [97],.int .i64 0,.int .i64 0,.int .i64 0,.str [],.str [],.bool false,.int .i64 0]]:=rfl;have r2:rowL (cmpA.enc [])=[[.int .i64 16,.int .i64 0,.str [],.str [46,97],.int .i64 5,.int .i64 3,.int .i64 0,.str [],.str [49],.bool false,.int .i64 0]]:=rfl;have r3:valL (oneA.enc [])=[[.int .i64 3,.int .i64 0,.str [],.str [49],.bool false,.int .i64 0]]:=rfl;have r4:valL (objA.enc [])=[[.int .i64 6,.int .i64 1,.str [],.str [],.bool false,.int .i64 0],[.int .i64 3,.int .i64 0,.str [97],.str [49],.bool false,.int .i64 0]]:=rfl;have r5:valL (nilT.enc [])=[[.int .i64 0,.int .i64 0,.str [],.str [],.bool false,.int .i64 0]]:=rfl;have r6:valL ((nd 6 []).enc [])=[[.int .i64 6,.int .i64 0,.str [],.str [],.bool false,.int .i64 0]]:=rfl;have r7:Bb [⟨false,[97],0⟩]=[[.bool false,.str [97],.int .i64 0]]:=rfl;rw [r3,r4] at hO e1;rw [r1] at e1 e2 e3;rw [r5] at e2;rw [r3] at e3 hS;rw [r2,r4] at hH;rw [r7,r4,r6] at hD;(refine bgo Tryz.func11 ?_;simp only [go_sem,simprocAttr]);(repeat' (first|((first|refine Jqa hO ?_|refine Jqa e1 ?_|refine Jqa e2 ?_|refine Jqa e3 ?_|refine Jqa hH ?_|refine Jqa hD ?_|refine Jqa hS ?_);simp only [go_sem,simprocAttr])|fail))
end Go.LX
namespace Go.LX
open Go Go.Proofs Go.RowKit Go.ChangeShapes Go.WideShapes Go.ChangeAt Go.Lib
open Go.Proofs.YtaghbedfogiopaaGreatDoor
def YRow.vals (r:YRow):List Value:=[.int .i64 r.kind,.int .i64 r.many,.string ⟨⟨r.name⟩⟩,.string ⟨⟨r.s⟩⟩,.int .i64 r.n,.int .i64 r.c.kind,.int .i64 r.c.many,.string ⟨⟨r.c.name⟩⟩,.string ⟨⟨r.c.s⟩⟩,.bool r.c.neg,.int .i64 r.c.e]
theorem Kjm {W:World} (h:laidMetH Tryz.prog Rows.evalTellsRow.laid W):QuoteG W (Ja W):=Jdp h
end Go.LX
