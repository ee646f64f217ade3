/- The program of the seat, for the laws on strings that are written; its tables. -/
import Derived.Test.YtmejkfclabmijaaGreatDoorPathTextsLxD
import Derived.Test.YtmejkfclabmijaaGreatDoorPathTextsLxE
import Derived.Test.YtmejkfclabmijaaGreatDoorPathTextsLxG
import Derived.Lib.Builder
import Derived.Shelf.Spec.TrailingZeros
set_option linter.unusedSimpArgs false
set_option linter.unusedVariables false
set_option linter.unusedSectionVars false
set_option linter.unnecessarySimpa false
set_option maxRecDepth 100000
namespace Go.LX
open Go Go.RowKit Go.Proofs
def Js5 (g:Nat) (w:World):Prop:=∃ te pe,w.cell? ⟨g,0,none⟩=some (.iface te pe)
theorem gPow:Tryz.prog.globalNamed "internal/strconv.uint64pow10" = some 5:=by kernel_rfl
structure QuoteG (w:World) (Im:Nat→Prop):Prop where
 tabs:Lib.Utf8Tabs 0 1 w
 syn:Js5 3 w
 rng:Js5 4 w
 tz:TabAt 7 Lib.deBruijn64tab w
 pow:Lib.TabIs Tryz.prog w "internal/strconv.uint64pow10" .u64 Lib.pow10Tab
 i1:Im 0
 i2:Im 1
 i3:Im 3
 i4:Im 4
 i5:Im 7
 i6:Im 5
theorem QuoteG.mono {w w':World} {Im Im':Nat→Prop} (hk:Keeps w Im w' Im') (h:QuoteG w Im):QuoteG w' Im' where
 tabs:=by
  refine ⟨fun c hc=>(hk.cell (a:=⟨_,c,none⟩) h.i1).trans (h.tabs.1 c hc),fun i hi=>⟨(hk.cell (a:=⟨_,_,none⟩) h.i2).trans (h.tabs.2 i hi).1,(hk.cell (a:=⟨_,_,none⟩) h.i2).trans (h.tabs.2 i hi).2⟩⟩
 syn:=by obtain ⟨te,pe,e⟩:=h.syn;exact ⟨te,pe,(hk.cell (a:=⟨_,0,none⟩) h.i3).trans e⟩
 rng:=by obtain ⟨te,pe,e⟩:=h.rng;exact ⟨te,pe,(hk.cell (a:=⟨_,0,none⟩) h.i4).trans e⟩
 tz:=fun j hj=>(hk.cell (a:=⟨_,j,none⟩) h.i5).trans (h.tz j hj)
 pow:=by
  have:=h.pow
  unfold Lib.TabIs World.var? at this ⊢
  rw [gPow] at this ⊢
  simp only [Option.bind_some] at this ⊢
  rw [hk.block _ h.i6]
  exact this
 i1:=hk.im _ h.i1
 i2:=hk.im _ h.i2
 i3:=hk.im _ h.i3
 i4:=hk.im _ h.i4
 i5:=hk.im _ h.i5
 i6:=hk.im _ h.i6
def kindOf (f:Nat):Nat:=if f=225 then 1 else if f=251 then 1 else if f=234 then 2 else if f=125 then 1 else if f=193 then 3 else if f=195 then 3 else if f=127 then 1 else if f=128 then 1 else 0
noncomputable def cx:Cx:=⟨Tryz.prog,QuoteG,QuoteG.mono,kindOf⟩
theorem Cc:cx.P=Tryz.prog:=(rfl)
theorem Bw {f:Nat}:cx.kind f=if f=225 then 1 else if f=251 then 1 else if f=234 then 2 else if f=125 then 1 else if f=193 then 3 else if f=195 then 3 else if f=127 then 1 else if f=128 then 1 else 0:=(rfl)
theorem Jnf {w:World} {Im:Nat→Prop} (h:cx.G w Im):QuoteG w Im:=h
end Go.LX
namespace Go.LX
open Go
structure Node where
 kind:Int
 many:Int
 name:List UInt8
 s:List UInt8
 neg:Bool
 e:Int
def Node.cells (n:Node):List PV:=[.int .i64 n.kind,.int .i64 n.many,.str n.name,.str n.s,.bool n.neg,.int .i64 n.e]
def valL (v:List Node):List (List PV):=v.map Node.cells
mutual
inductive Tree where
 | mk (kind:Int) (s:List UInt8) (neg:Bool) (e:Int) (kids:Forest)
inductive Forest where
 | nil
 | cons (name:List UInt8) (t:Tree) (rest:Forest)
end
def Forest.len:Forest→Nat
 | .nil=>0
 | .cons _ _ r=>r.len+1
mutual
def Tree.enc (name:List UInt8):Tree→List Node
 | .mk k s g e kids=>⟨k,kids.len,name,s,g,e⟩ :: kids.enc
def Forest.enc:Forest→List Node
 | .nil=>[]
 | .cons nm t r=>t.enc nm ++ r.enc
end
def Forest.app:Forest→Forest→Forest
 | .nil,g=>g
 | .cons nm t r,g=>.cons nm t (r.app g)
theorem Forest.len_app:∀ f g:Forest,(f.app g).len=f.len+g.len
 | .nil,g=>by simp [Forest.app,Forest.len]
 | .cons nm t r,g=>by simp only [Forest.app,Forest.len,Forest.len_app r g];omega
theorem Forest.enc_app:∀ f g:Forest,(f.app g).enc=f.enc ++ g.enc
 | .nil,g=>by simp [Forest.app,Forest.enc]
 | .cons nm t r,g=>by simp only [Forest.app,Forest.enc,Forest.enc_app r g,List.append_assoc]
theorem Gx {name:List UInt8} {k:Int} {s:List UInt8} {g:Bool} {e:Int} {kids:Forest}:(Tree.mk k s g e kids).enc name=⟨k,kids.len,name,s,g,e⟩ :: kids.enc:=by rw [Tree.enc]
theorem E9 {nm:List UInt8} {t:Tree} {r:Forest}:(Forest.cons nm t r).enc=t.enc nm ++ r.enc:=by rw [Forest.enc]
theorem J1:Forest.nil.enc=[]:=by rw [Forest.enc]
theorem R7 (t:Tree) (nm:List UInt8):1≤(t.enc nm).length:=by
 cases t;rw [Gx];simp
theorem Forest.len_le:∀ f:Forest,f.len≤f.enc.length
 | .nil=>by simp [Forest.len]
 | .cons nm t r=>by
  have:=R7 t nm
  have:=Forest.len_le r
  rw [E9,List.length_append,Forest.len]
  omega
@[simp] theorem Js (v:List Node):(valL v).length=v.length:=by simp [valL]
theorem Jao (n:Node) (v:List Node):valL (n :: v)=n.cells :: valL v:=rfl
theorem Jsy:valL []=[]:=rfl
theorem Ux (a b:List Node):valL (a ++ b)=valL a ++ valL b:=by simp [valL]
theorem Nq {k m:Int} {nm s:List UInt8} {g:Bool} {e:Int}:Node.cells ⟨k,m,nm,s,g,e⟩=[.int .i64 k,.int .i64 m,.str nm,.str s,.bool g,.int .i64 e]:=rfl
theorem Pk (v:List Node):∀ q∈valL v,q.length=6:=by
 intro q hq
 obtain ⟨n,_,rfl⟩:=List.mem_map.1 hq
 rfl
theorem Jf6 {v:List Node} {i:Nat} {a b:List Node} (h:v.drop i=a ++ b):((valL v).drop i).take a.length=valL a:=by
 have:(valL v).drop i=valL a ++ valL b:=by rw [← Ux,← h];simp [valL,List.map_drop]
 rw [this]
 simp
theorem Pm {v:List Node} {i:Nat} {n:Node} {b:List Node} (h:v.drop i=n :: b):(valL v)[i]? = some n.cells:=by
 have:v[i]? = some n:=by
  have:=congrArg (·[0]?) h
  simpa using this
 simp [valL,this]
theorem Jd9 {v:List Node} {i:Nat} {a:List Node} (h:v.drop i=a) (ha:a≠[]):i+a.length=v.length:=by
 have:=congrArg List.length h
 simp at this
 have:1≤a.length:=by cases a <;> simp_all
 omega
def Forest.list:Forest→List (List UInt8×Tree)
 | .nil=>[]
 | .cons nm t r=>(nm,t) :: r.list
theorem Forest.list_len:∀ f:Forest,f.list.length=f.len
 | .nil=>rfl
 | .cons _ _ r=>by simp [Forest.list,Forest.len,Forest.list_len r]
end Go.LX
set_option maxRecDepth 100000
set_option maxHeartbeats 2000000
namespace Go.LX
open Go Go.RowKit Go.Proofs
attribute [local irreducible] B2 SWP Hb
theorem wj1 {i:Nat} (h:i≤3000000):IntKind.i64.wrap ((i:Int)+1)=((i+1:Nat):Int):=by rw [Aa (by omega) (by omega)];omega
theorem Sn (v:List Node):Det cx 129 [.p (.sl (valL v))] [] (.fn 197 [900]) [(900,.var 34 [.p (.sl (valL v))])]:=by
 (refine B2.of_code (X:=cx) true [(1,900)] (by simp) Tryz.func129 (by kernel_rfl) rfl (by simp only [List.length_cons,List.length_nil,Tryz.ntmps129];decide) (by simp) ?_;refine Ax hm _ _ _ ?_;simp only [Tryz.ntmps129,Tryz.results129,Ah,Bm,Cn,Ab,Bd,A1,Bc,Ct,Bf,A0,v_nfn,Aj,Jd0,Un,Bo,u_kfn,u_caps,Jg7,Jfj,Jbw,Qp,Um,Cu,Mj,Bu,Fn,Eg,B6,Fi,T9,Gw,Y2,Km,Av,Ap,Em,Ls,H5,Af,C3,Gj,Fl,D8,Dr,Du,Aw,B4,Ez,C7,El,Cz,A2,Ad,Ac,Bn,Cq,Bg,Bb,argW,List.map_cons,List.map_nil,Nat.reduceLT,Nat.reduceEqDiff,Cc,↓reduceIte,and_self])
theorem Rm {nm:List UInt8} {t:Tree} {r:Forest}:(Forest.cons nm t r).len=r.len+1:=rfl
theorem Jlk (v:List Node) (i:Nat) (nm:List UInt8) (t:Tree) (rest:List Node) (hv:v.length≤1000000) (h:v.drop i=t.enc nm ++ rest):Det cx 198 [.p (.sl (valL v)),.p (.int .i64 i)] [] (.p (.int .i64 (i+(t.enc nm).length:Nat))) []:=by
 (refine B2.of_code (X:=cx) false [] (by simp) Tryz.func198 (by kernel_rfl) rfl (by simp only [List.length_cons,List.length_nil,Tryz.ntmps198];decide) (by simp) ?_;refine Ax hm _ _ _ ?_;simp only [Tryz.ntmps198,Tryz.results198,Ah,Bm,Ce,He,Ab,Bd,A1,Bc,A0,Ca,Aj,Ad,argW,List.map_cons,List.map_nil,Cc,Nat.zero_add])
 have hp:=R7 t nm
 have hb:=Jd9 h (fun e=>by have e2:(t.enc nm ++ rest).length=0:=(by rw [e];rfl);rw [List.length_append] at e2;omega)
 rw [List.length_append] at hb
 refine SWP.loop (fun x:Nat×Nat×Forest=>⟨Fp 19 [(0,.p (.sl (valL v))),(1,.p (.int .i64 x.1)),(5,.p (.int .i64 x.2.1))],[]⟩) (fun x=>x.2.1=x.2.2.len∧v.drop x.1=x.2.2.enc ++ rest∧x.1+x.2.2.enc.length=i+(t.enc nm).length) (fun x=>x.2.2.enc.length) (i,1,.cons nm t .nil) (St.le_slots (by simp only [Cd,Ck,Ac,Be,Aq,Nat.reduceEqDiff,reduceIte,Nat.reduceLT,Nat.reduceLeDiff];simp (disch:=omega) [Aq,A8,Cm,Aa] <;> (repeat' apply And.intro) <;> omega) (by simp (disch:=omega) [Dc,Ee,C9,Bj,Aq,A8,Cm,Aa]) (by simp [De])) ⟨rfl,by simp [E9,J1,h],by simp [E9,J1]⟩ ?_
 rintro ⟨j,left,F⟩ ⟨h0,h1,h2⟩
 simp only at h0 h1 h2
 match F,h0,h1,h2 with
 | .nil,h0,h1,h2 =>
  rw [J1] at h2
  simp only [Forest.len] at h0
  subst h0
  (refine Ax hm _ _ _ ?_;simp only [Cb,Ah,Bm,Br,Ce,Eh,Cn,Ab,Ci,B0,Bd,A1,Bc,Bf,A0,Ca,A9,Aj,B8,Cv,Bq,Au,Bt,Ar,Je,Cj,Ei,Ag,Ae,A3,Bs,Cs,Cr,A6,A7,B9,Av,Ap,Al,B7,B5,Af,Am,Ao,Co,Ay,A2,Ad,Ac,Dy,List.map_cons,List.map_nil,decide_eq_true_eq,Nat.reduceLT,Nat.reduceEqDiff,true_and,and_true,Cc,↓reduceIte,reduceCtorEq,Int.toNat_natCast,Int.natCast_nonneg,L.p.injEq,PV.int.injEq,Bool.true_and,Bool.and_true,Bool.or_true,Kc])
  (repeat' (first | (refine iteI (fun h=>?_) (fun h=>?_))|(refine B1 (by first | omega | (simp (disch:=omega) only [Aa,Ak,Ai] at *;omega)) ?_;intro b hb)|(refine And.intro (by first | omega | (simp (disch:=omega) only [Aa,Ak,Ai] at *;omega)) ?_)|((first | (refine Ba hm (by rfl) (by kernel_rfl) ?_));simp only [Dh])|(exact True.intro)|(exfalso;omega)))
  simp only [List.length_nil] at h2
  omega
 | .cons nm' (.mk k s g e kids) r,h0,h1,h2 =>
  rw [Rm] at h0
  rw [E9,Gx] at h1 h2
  have hg:=Pm h1
  rw [Nq] at hg
  simp only [List.length_cons,List.length_append] at h2
  have hl1:=Forest.len_le kids
  have hl2:=Forest.len_le r
  have w0:IntKind.i64.wrap ((kids.len:Int) - 1)=(kids.len:Int) - 1:=Aa (by omega) (by omega)
  have w1:IntKind.i64.wrap ((left:Int)+((kids.len:Int) - 1))=((r.len+kids.len:Nat):Int):=by rw [Aa (by omega) (by omega)];omega
  skip
  (refine Ax hm _ _ _ ?_;simp only [Cb,Ah,Bm,Br,Ce,Eh,Cn,Ab,Ci,Bk,B0,Bd,A1,Bc,Bf,A0,Ca,A9,Aj,B8,Ed,C8,Cv,Bl,Bq,Au,Bt,Ar,E8,M5,Je,Eo,Cj,Ei,G8,C0,Gb,C5,Dd,Ag,Ae,A3,Bs,Cs,Cr,A6,A7,B9,Av,Ap,Al,B7,B5,Af,Am,Ao,Co,Ay,A2,Ad,Ac,Dy,List.map_cons,List.map_nil,List.length_cons,List.length_nil,List.drop_succ_cons,List.drop_zero,List.getElem?_cons_zero,decide_eq_true_eq,Nat.reduceLT,Nat.reduceLeDiff,Nat.reduceEqDiff,Nat.reduceAdd,true_and,and_true,Cc,↓reduceIte,reduceCtorEq,Int.toNat_natCast,Int.natCast_nonneg,Nat.zero_add,L.p.injEq,PV.int.injEq,Bool.true_and,Bool.and_true,Bool.or_false,Bool.or_true,Ox,Mm,Kc,Lb,wj1 (i:=j) (by omega),hg,w0,w1])
  (repeat' (first | (refine iteI (fun h=>?_) (fun h=>?_))|(refine B1 (by first | omega | (simp (disch:=omega) only [Aa,Ak,Ai] at *;omega)) ?_;intro b hb)|(refine And.intro (by first | omega | (simp (disch:=omega) only [Aa,Ak,Ai] at *;omega)) ?_)|((first | (refine Ba hm (by rfl) (by kernel_rfl) ?_));simp only [Dh])|(exact True.intro)|(exfalso;omega)))
  ·exact ⟨(j+1,r.len+kids.len,kids.app r),⟨by simp only [Forest.len_app];omega,by
    simp only [Forest.enc_app]
    rw [← List.drop_drop,h1];simp,by simp only [Forest.enc_app,List.length_append];omega⟩,by simp only [Forest.enc_app,E9,Gx,List.length_append,List.length_cons];omega,(St.le_slots (by simp only [Cd,Ck,Ac,Be,Aq,Nat.reduceEqDiff,reduceIte,Nat.reduceLT,Nat.reduceLeDiff];simp (disch:=omega) [Aq,A8,Cm,Aa] <;> (repeat' apply And.intro) <;> omega) (by simp (disch:=omega) [Dc,Ee,C9,Bj,Aq,A8,Cm,Aa]) (by simp [De]))⟩
theorem Jp4 (c:List PV) (cs:List (List PV)) (h6:∀ q∈c :: cs,q.length=6) (hl:cs.length≤1000000):Det cx 199 [.p (.sl (c :: cs))] [] (.own 900 0 (cs.length+1)) [(900,.row 53 6 (c :: cs))]:=by
 (refine B2.of_code (X:=cx) true [(7,900)] (by simp) Tryz.func199 (by kernel_rfl) rfl (by simp only [List.length_cons,List.length_nil,Tryz.ntmps199];decide) (by simp) ?_;refine Ax hm _ _ _ ?_;simp only [Tryz.ntmps199,Tryz.results199,Cb,Ah,Bm,Br,Cn,Ab,Bd,A1,Bc,Ct,Bf,A0,E4,A9,Aj,B8,Df,F8,Bo,Bq,Jsd,Jr3,Si,Bt,Ar,Cu,G6,Ag,Bu,Fn,Di,B6,D2,H7,Ey,Ht,Ji,Il,Dg,Jg,Gp,Hu,Hc,F5,P9,Me,Gg,Kz,Km,Av,Ap,Em,Ls,H5,Af,C3,Gj,Fl,D8,Dr,Du,Aw,B4,C4,Ez,G7,Ga,A2,Ad,Ac,Bn,Cq,Bg,Bb,argW,List.map_cons,List.map_nil,List.length_cons,List.length_nil,List.nil_append,Nat.reduceLT,Nat.reduceLeDiff,Nat.reduceEqDiff,Nat.reduceAdd,Nat.reduceMul,true_and,and_true,Cc,↓reduceIte,reduceCtorEq,Nat.zero_add,Bool.false_eq_true,Bool.true_and,Bool.and_true,Bool.or_true,and_self,Qx,Kc,Sd,Yv])
 (repeat' (first | (refine iteI (fun h=>?_) (fun h=>?_))|(refine B1 (by first | omega | (simp (disch:=omega) only [Aa,Ak,Ai] at *;omega)) ?_;intro b hb)|(refine And.intro (by first | omega | (simp (disch:=omega) only [Aa,Ak,Ai] at *;omega)) ?_)|((first | (refine Ba hm (by rfl) (by kernel_rfl) ?_));simp only [Dh])|(exact True.intro)|(exfalso;omega)))
 omega
def M8 (f:Forest):List (List PV):=f.list.map fun p=>[.str p.1,.sl (valL (p.2.enc []))]
theorem O4 (f:Forest):(M8 f).length=f.len:=by simp [M8,Forest.list_len]
theorem Jc5 (nm:List UInt8) (kd:Int) (s:List UInt8) (g:Bool) (e:Int) (kids:Forest) (hv:kids.enc.length≤999999):Jf3 cx 197 [.eptr [.sl (valL ((Tree.mk kd s g e kids).enc nm))]] (M8 kids):=by
 have hl:=Forest.len_le kids
 generalize hvv:(Tree.mk kd s g e kids).enc nm=v
 have h0:v.drop 0=⟨kd,kids.len,nm,s,g,e⟩ :: kids.enc:=by rw [← hvv,Gx];rfl
 have hg0:=Pm h0
 rw [Nq] at hg0
 have hvl:v.length=kids.enc.length+1:=by rw [← hvv,Gx];rfl
 skip
 (refine Jf3.of_code (X:=cx) Tryz.func197 (by kernel_rfl) rfl (by kernel_rfl) (by simp only [List.length_cons,List.length_nil,Tryz.ntmps197];decide) fun l=>?_;refine Zt _ _ _ _ ?_;simp only [Tryz.ntmps197,Bc,Bf,A0,Ca,A9,Aj,Ed,C8,Cv,Bl,Eo,Cj,Ei,G8,C0,Gb,C5,Dd,U2,Jjw,Jb5,j_loop,S3,Jfe,Yr,Yw,Jak,Y0,Tx,Uc,Ad,Ac,argW,List.map_cons,List.map_nil,List.length_cons,List.length_nil,List.drop_succ_cons,List.drop_zero,List.getElem?_cons_zero,Nat.reduceLT,Nat.reduceLeDiff,Nat.reduceEqDiff,Nat.reduceAdd,Int.reduceToNat,Int.reduceLE,true_and,Cc,↓reduceIte,reduceCtorEq,Nat.zero_add,Bool.true_and,Ox,Mm,Q1,Ng,Kc,Lb,hg0])
 refine JWP.loop (fun x:Nat×Nat×Forest=>(some x.1,⟨Fp 34 [(0,.yld l),(1,.eptr [.sl (valL v)]),(3,.p (.int .i64 x.2.1)),(9,.p (.int .i64 kids.len)),(10,.p (.int .i64 x.1))],[]⟩)) (fun x=>x.1+x.2.2.len=kids.len∧v.drop x.2.1=x.2.2.enc∧x.2.1+x.2.2.enc.length=v.length∧(M8 kids).drop x.1=M8 x.2.2) (fun x=>x.2.2.enc.length) (0,1,kids) rfl (St.le_slots (by simp only [Cd,Ck,Ac,Be,Aq,Nat.reduceEqDiff,reduceIte,Nat.reduceLT,Nat.reduceLeDiff];simp (disch:=omega) [Aq,A8,Cm,Aa] <;> (repeat' apply And.intro) <;> omega) (by simp (disch:=omega) [Dc,Ee,C9,Bj,Aq,A8,Cm,Aa]) (by simp [De])) ⟨by simp,by rw [← hvv,Gx];rfl,by simp only;omega,rfl⟩ ?_
 rintro ⟨k,j,F⟩ ⟨h1,h2,h3,h4⟩
 simp only at h1 h2 h3 h4 ⊢
 match F,h1,h2,h3,h4 with
 | .nil,h1,h2,h3,h4 =>
  simp only [Forest.len] at h1
  (refine Zt _ _ _ _ ?_;simp only [Bc,Bf,Ch,A9,B8,Ed,Cg,Bl,Bq,Au,Ar,Dm,G8,C5,Dd,Ag,Ae,A3,Cf,Bv,Bi,Bz,Bx,A4,B6,Bh,Az,A5,Cl,Jio,U2,Jjw,Jh2,Jb5,Jm0,S3,Ji1,Jid,Jfe,Yr,Jcd,Jod,Zf,Jhn,Yw,Jiv,Y0,Ad,Ac,List.map_cons,List.map_nil,List.append_nil,List.flatMap_cons,List.flatMap_nil,List.getElem?_cons_zero,decide_eq_true_eq,Nat.reduceLT,Nat.reduceEqDiff,Cc,Bw,↓reduceIte,reduceCtorEq,Bool.or_false,Q1,Ng])
  (repeat' (first | (refine iteI (fun h=>?_) (fun h=>?_))|(refine B1 (by first | omega | (simp (disch:=omega) only [Aa,Ak,Ai] at *;omega)) ?_;intro b hb)|(refine And.intro (by first | omega | (simp (disch:=omega) only [Aa,Ak,Ai] at *;omega)) ?_)|((first | (refine Ba hm (by rfl) (by kernel_rfl) ?_));simp only [Dh])|(exact True.intro)|(exfalso;omega)))
  rw [O4]
  exact .inl (by congr 1)
 | .cons nm' (.mk k' s' g' e' kids') r,h1,h2,h3,h4 =>
  rw [Rm] at h1
  rw [E9] at h2 h3
  rw [List.length_append] at h3
  have hs:=Jf6 h2
  rw [Gx] at h3
  simp only [List.length_cons] at h3
  have hs':((valL v).drop j).take (j+((Tree.mk k' s' g' e' kids').enc nm').length - j)=[.int .i64 k',.int .i64 kids'.len,.str nm',.str s',.bool g',.int .i64 e'] :: valL kids'.enc:=by
   rw [Nat.add_sub_cancel_left,hs,Gx,Jao,Nq]
  have h2':=h2
  rw [Gx] at h2'
  have hg:=Pm h2'
  rw [Nq] at hg
  have hel:((Tree.mk k' s' g' e' kids').enc nm').length=kids'.enc.length+1:=by rw [Gx];rfl
  have h6:∀ q∈[.int .i64 k',.int .i64 kids'.len,.str nm',.str s',.bool g',.int .i64 e'] :: valL kids'.enc,q.length=6:=fun q hq=>Pk ((Tree.mk k' s' g' e' kids').enc nm') q (by rw [Gx];exact hq)
  have htk:(valL kids'.enc).take kids'.enc.length=valL kids'.enc:=List.take_of_length_le (by simp)
  skip
  (refine Zt _ _ _ _ ?_;simp only [Bc,Bf,Ch,A9,B8,Ed,Cg,Bl,Bq,Au,Ar,Dm,G8,C5,Dd,Ag,Ae,A3,Cf,Bv,Bi,Bz,Bx,A4,B6,Bh,Az,A5,Cl,Jio,U2,Jjw,Jh2,Jb5,Jm0,S3,Ji1,Jid,Jfe,Yr,Jcd,Jod,Zf,Jhn,Yw,Jiv,Y0,Ad,Ac,List.map_cons,List.map_nil,List.append_nil,List.flatMap_cons,List.flatMap_nil,List.getElem?_cons_zero,decide_eq_true_eq,Nat.reduceLT,Nat.reduceEqDiff,Cc,Bw,↓reduceIte,reduceCtorEq,Bool.or_false,Q1,Ng,wj1 (i:=k) (by omega)])
  (repeat' (first | (refine And.intro (Pk _) ?_)|(refine iteI (fun h=>?_) (fun h=>?_))|(refine B1 (by first | omega | (simp (disch:=omega) only [Aa,Ak,Ai] at *;omega)) ?_;intro b hb)|(refine And.intro (by first | omega | (simp (disch:=omega) only [Aa,Ak,Ai] at *;omega)) ?_)|((first | (refine Ba hm (by rfl) (by kernel_rfl) ?_)|(refine Det.use (Jlk v j nm' (.mk k' s' g' e' kids') r.enc (by omega) h2) ?_)|(refine Det.useQ (Jlk v j nm' (.mk k' s' g' e' kids') r.enc (by omega) h2) ?_)|(refine Det.use (Jp4 _ _ h6 (by rw [Js];omega)) ?_)|(refine Det.useQ (Jp4 _ _ h6 (by rw [Js];omega)) ?_));simp only [Bc,C1,Ct,Bf,A0,Ch,Ca,F6,A9,Aj,B8,N7,Ed,Fk,C8,Cv,E7,Cg,Bo,Bl,Bq,Au,Bt,Ar,E8,J7,Eo,Cj,Ei,Lj,Lg,G8,C0,Gb,G3,C5,Dd,D5,E2,Jh7,Gf,Lh,Vs,Vw,Vr,Sf,Fj,Ii,Oy,Ag,Ae,A3,E6,Fu,En,F4,Cf,Bv,Bi,Bz,Bx,A4,Bp,Iw,Ik,D3,G2,Dz,Hk,H6,Lo,Fm,Hl,Jz,Bu,Hm,Di,B6,D2,Jl,Jpc,H7,Ey,Bh,Az,A5,Aw,Cp,Dx,Dk,I9,Pg,Jp1,Kh,G9,Cl,C7,El,Cz,F1,Jio,U2,Jjw,Jh2,j_ret,S3,Js4,Jgj,Jsa,Jfe,Yr,Jcd,jc_yld,Jod,jy,jy_at,Jgp,Job,Jky,j_bare,Jsn,Jhi,Js9,Yw,Jak,Jiv,jp_un,Y0,Jju,Tx,Uc,Jj5,Ad,Ac,C6,Cq,Bg,Bb,List.map_cons,List.map_nil,List.length_cons,List.length_nil,List.cons_append,List.nil_append,List.append_nil,List.flatMap_cons,List.flatMap_nil,List.take_succ_cons,List.take_zero,List.drop_succ_cons,List.drop_zero,List.set_cons_zero,List.getElem?_cons_zero,ne_eq,not_false_eq_true,Nat.reduceLT,Nat.reduceLeDiff,Nat.reduceEqDiff,Nat.reduceAdd,Int.reduceToNat,Int.reduceLE,true_and,Cc,Bw,↓reduceIte,reduceCtorEq,Int.toNat_natCast,Int.natCast_nonneg,Nat.zero_add,Bool.not_true,Bool.not_false,Bool.false_eq_true,Bool.true_and,Bool.or_true,L5,Kg,Qx,Q1,Ng,Kc,Jg0,Tr,htk,Nat.le_refl,hg,hs',Js,wj1 (i:=k) (by omega)])|(exact True.intro)|(exfalso;omega)))
  refine ⟨?_,⟨(k+1,j+((Tree.mk k' s' g' e' kids').enc nm').length,r),⟨by simp only;omega,by simp only;rw [← List.drop_drop,h2,List.drop_left],by simp only;omega,by simp only;rw [← List.drop_drop,h4];rfl⟩,by simp only [E9,List.length_append];omega,rfl,(St.le_slots (by simp only [Cd,Ck,Ac,Be,Aq,Nat.reduceEqDiff,reduceIte,Nat.reduceLT,Nat.reduceLeDiff];simp (disch:=omega) [Aq,A8,Cm,Aa] <;> (repeat' apply And.intro) <;> omega) (by simp (disch:=omega) [Dc,Ee,C9,Bj,Aq,A8,Cm,Aa]) (by simp [De]))⟩,.inr trivial⟩
  have:=congrArg (·[0]?) h4
  simp only [List.getElem?_drop,Nat.add_zero] at this
  rw [this]
  simp [M8,Forest.list,Gx,Jao,Nq]
def E3 (l:List (List UInt8×Tree)):List (List PV):=l.map fun p=>[.sl (valL (p.2.enc []))]
@[simp] theorem Jqr:E3 []=[]:=rfl
theorem Rs {l:List (List UInt8×Tree)} {k:Nat} {p:List UInt8×Tree} (h:l[k]? = some p):E3 (l.take (k+1))=E3 (l.take k) ++ [[.sl (valL (p.2.enc []))]]:=by
 rw [List.take_add_one,h]
 simp [E3]
theorem Qe {f:Forest} {k:Nat} {x:List PV} (h:(M8 f)[k]? = some x):∃ p,f.list[k]? = some p∧x=[.str p.1,.sl (valL (p.2.enc []))]:=by
 unfold M8 at h
 rw [List.getElem?_map] at h
 obtain ⟨p,h1,h2⟩:=Option.map_eq_some_iff.1 h
 exact ⟨p,h1,h2.symm⟩
theorem Qg {f:Forest} {x:List PV} (h:x∈M8 f):x.length=2:=by
 obtain ⟨p,_,rfl⟩:=List.mem_map.1 h
 rfl
theorem Fo (l:List (List UInt8×Tree)):(E3 l).length=l.length:=by simp [E3]
theorem Jcc (nm:List UInt8) (kd:Int) (s:List UInt8) (g:Bool) (e:Int) (kids:Forest) (hv:kids.enc.length≤999999):Det cx 62 [.p (.sl (valL ((Tree.mk kd s g e kids).enc nm)))] [] (.p (.sl (E3 kids.list))) []:=by
 (refine B2.of_code (X:=cx) false [] (by simp) Tryz.func62 (by kernel_rfl) rfl (by simp only [List.length_cons,List.length_nil,Tryz.ntmps62];decide) (by simp) ?_;refine Ax hm _ _ _ ?_;simp only [Tryz.ntmps62,Tryz.results62,Ah,Bm,Ab,Bd,A1,Bc,Ct,Bf,A0,Ch,E4,A9,Aj,Hv,Cg,Bo,Gy,Hw,Cu,Ag,Ae,A3,Cf,Bv,Bi,Bz,Bx,A4,B6,Bh,Az,A5,B4,Ez,Cl,Ad,Ac,Bn,Bg,Bb,argW,List.map_cons,List.map_nil,List.append_nil,List.flatMap_cons,List.flatMap_nil,Nat.reduceLT,Nat.reduceEqDiff,true_and,Cc,Bw,↓reduceIte,reduceCtorEq,Bool.true_and,Jpb])
 (repeat' (first | (refine iteI (fun h=>?_) (fun h=>?_))|(refine B1 (by first | omega | (simp (disch:=omega) only [Aa,Ak,Ai] at *;omega)) ?_;intro b hb)|(refine And.intro (by first | omega | (simp (disch:=omega) only [Aa,Ak,Ai] at *;omega)) ?_)|((first | (refine Ba hm (by rfl) (by kernel_rfl) ?_)|(refine Det.use (Sn _) ?_)|(refine Det.useQ (Sn _) ?_));simp only [Ce,Ab,Bd,Ct,Iw,Ik,D3,Hq,G2,Dz,Hk,H6,Lo,Fm,Fh,Ih,Hs,Hl,Jz,Bu,Jt,Hm,Ft,Gl,Eg,B6,Fi,T9,Gw,Y2,Aw,C7,El,Cz,Ad,Cq,Bg,Bb,List.map_cons,List.map_nil,List.cons_append,List.nil_append,decide_eq_true_eq,ne_eq,not_false_eq_true,Nat.reduceLT,Nat.reduceEqDiff,↓reduceIte])|(exact True.intro)|(exfalso;omega)))
 (refine SWP.range (M8 kids) 15 [(13,900)] (by simp) _ _ _ _ _ (fun k R=>R=if k=0 then [(1000,.var 44 [.p .snil])] else [(900,.row 34 1 (E3 (kids.list.take k))),(1000,.var 44 [.own 900 0 k])]) (fun _ _=>False) (by rfl) (by rfl) (by rfl) (Jc5 nm kd s g e kids hv) (by simp only [F4,Dx,Dk,Kn,I9,Kh,Zi,C6,Bg,Bb,List.map_cons,List.map_nil,List.contains_cons,List.contains_nil,Nat.reduceEqDiff,↓reduceIte,Bool.or_false,beq_self_eq_true] <;> rfl) (by first | rfl | simp [Kv]) (by simp) ?hps (by simp only [S6,Sy,Nat.reduceAdd,Nat.zero_add] <;> rfl) (by simp only [D7,B6,Fi,H7,Gw,Jgn,O0,Cq,Bg,Bb,Nat.reduceLT,↓reduceIte] <;> rfl) (by simp only [D7,Gn,Fr,Fq,Eg,B6,List.map_cons,List.map_nil,↓reduceIte] <;> rfl) ?h0 ?hkI ?hkS ?hSn ?round ?done ?stop)
 case hps=>exact fun x hx=>Qg hx
 case h0=>rfl
 case hkI=>rintro k R rfl;split <;> simp [So,findKey]
 case hkS=>exact fun _ _ h=>h.elim
 case hSn=>exact fun _ h=>h
 case stop=>exact fun _ _ h=>h.elim
 case round =>
  rintro k x R l hx rfl
  obtain ⟨p,hp,rfl⟩:=Qe hx
  by_cases hk:k=0
  ·subst hk
   rw [if_pos rfl]
   simp only [Bd,A1,Bc,Bf,Aj,Rn,Mn,Nl,Ad,Ac,List.map_cons,List.map_nil,Nat.reduceLT,↓reduceIte]
   (refine Ax hm _ _ _ ?_;simp only [Ah,Ce,Bk,Bd,A1,Bc,C1,Ct,Bf,A9,Ed,Fk,Df,F8,Bo,Bl,C5,Dv,E0,Cu,Mj,M9,Iz,Fj,Ii,Ef,Ag,Ae,A3,Bu,Fn,Eg,Di,B6,Fi,D2,H7,Gw,Ey,Ht,Ji,Il,Dg,Jg,Gp,Gr,Gs,Gu,Hu,Ho,Hc,F5,G5,E1,Rf,F2,Jk,Af,C3,Gj,Fl,D8,Dr,Du,Aw,B4,C4,Cp,Hy,Fy,Ez,G7,H8,Ga,C7,El,Cz,F1,O1,Ad,Ac,Bn,Cq,Bg,Bb,List.map_cons,List.map_nil,List.length_cons,List.length_nil,List.nil_append,List.append_nil,List.take_succ_cons,List.take_zero,List.take_nil,List.drop_succ_cons,List.drop_zero,List.drop_nil,List.getElem?_cons_zero,ne_eq,not_false_eq_true,Nat.reduceLT,Nat.reduceLeDiff,Nat.reduceEqDiff,Nat.reduceMul,true_and,Cc,↓reduceIte,reduceCtorEq,Nat.zero_add,Bool.true_and,Bool.and_true,beq_self_eq_true,Ph,Ul,Ja9,Ja6,Lx])
   (repeat' (first | (refine iteI (fun h=>?_) (fun h=>?_))|(refine B1 (by first | omega | (simp (disch:=omega) only [Aa,Ak,Ai] at *;omega)) ?_;intro b hb)|(refine And.intro (by first | omega | (simp (disch:=omega) only [Aa,Ak,Ai] at *;omega)) ?_)|((first | (refine Ba hm (by rfl) (by kernel_rfl) ?_));simp only [Dh])|(exact True.intro)|(exfalso;omega)))
   refine ⟨by simp,_,rfl,?_⟩
   rw [Rs hp]
   exact (St.le_slots (by simp only [Ck]) (by simp (disch:=omega) [Dc,Ee,C9,Bj,Aq,A8,Cm,Aa]) (by simp [De]))
  ·rw [if_neg hk]
   have hkl:=(List.getElem?_eq_some_iff.1 hp).1
   rw [Forest.list_len] at hkl
   have hll:=Forest.len_le kids
   simp only [Bd,A1,Bc,Bf,Aj,Rn,Mn,Nl,Ad,Ac,List.map_cons,List.map_nil,Nat.reduceLT,↓reduceIte]
   (refine Ax hm _ _ _ ?_;simp only [Ah,Ce,Bk,Bd,A1,Bc,C1,Ct,Bf,A9,Ed,Fk,Df,F8,Bo,Bl,C5,Dv,E0,Cu,G6,Mj,M9,Iz,Fj,Ii,Ef,Ag,Ae,A3,Bu,Fn,Eg,Di,B6,Fi,D2,H7,Gw,Ey,Ht,Ji,Il,Dg,Jg,Gp,Gr,Gs,Gu,Hu,Ho,Hc,F5,G5,E1,Gg,Kz,F2,Jk,Af,C3,Gj,Fl,D8,Dr,Du,Aw,B4,C4,Cp,Hy,Fy,Ez,G7,H8,Ga,C7,El,Cz,F1,O1,Ad,Ac,Bn,Cq,Bg,Bb,List.map_cons,List.map_nil,List.length_cons,List.length_nil,List.nil_append,List.append_nil,List.take_succ_cons,List.take_zero,List.take_nil,List.drop_succ_cons,List.drop_zero,List.drop_nil,List.getElem?_cons_zero,ne_eq,not_false_eq_true,Nat.reduceLT,Nat.reduceLeDiff,Nat.reduceEqDiff,Nat.reduceMul,true_and,Cc,↓reduceIte,reduceCtorEq,Nat.zero_add,Bool.true_and,Bool.and_true,beq_self_eq_true,Ph,Ul,Ja9,Ja6,Lx])
   (repeat' (first | (refine iteI (fun h=>?_) (fun h=>?_))|(refine B1 (by first | omega | (simp (disch:=omega) only [Aa,Ak,Ai] at *;omega)) ?_;intro b hb)|(refine And.intro (by first | omega | (simp (disch:=omega) only [Aa,Ak,Ai] at *;omega)) ?_)|((first | (refine Ba hm (by rfl) (by kernel_rfl) ?_));simp only [Dh])|(exact True.intro)|(exfalso;omega)))
   refine ⟨by simp,by rw [Fo,List.length_take,Forest.list_len];omega,by omega,by omega,_,rfl,?_⟩
   rw [Rs hp]
   exact (St.le_slots (by simp only [Ck]) (by simp (disch:=omega) [Dc,Ee,C9,Bj,Aq,A8,Cm,Aa]) (by simp [De]))
 case done =>
  rintro R rfl
  rw [O4]
  have hll:=Forest.list_len kids
  by_cases hk:kids.len=0
  ·rw [if_pos hk]
   have hnil:kids.list=[]:=List.eq_nil_of_length_eq_zero (by omega)
   rw [hnil]
   simp only [Kt,Gk,Dz,Es,Hk,Hp,Fm,Fh,Fs,Fx,Fv,Hl,Jd,D6,Bu,D7,Eg,B6,Aw,List.map_cons,List.map_nil,List.nil_append,Nat.reduceLeDiff,Nat.reduceEqDiff,↓reduceIte]
   refine ⟨⟨Fp 15 [(3,.ptr 3 0 0)],[(3,.var 44 [.p (.sl [])])]⟩,(St.le_slots (by simp only [Cd,Ck,Ac,Be,Aq,Nat.reduceEqDiff,reduceIte,Nat.reduceLT,Nat.reduceLeDiff];simp (disch:=omega) [Aq,A8,Cm,Aa] <;> (repeat' apply And.intro) <;> omega) (by simp (disch:=omega) [Dc,Ee,C9,Bj,Aq,A8,Cm,Aa]) (by simp [De])),?_⟩
   simp only [Ah,Bm,Cn,Ab,Bk,Bd,A1,Bc,Bf,Aj,Ed,Bl,C5,Dv,E0,Ag,Ae,A3,Bs,Cs,Cr,A6,A7,B9,Av,Ap,Al,B7,B5,Af,Am,Ao,Co,Ay,Aw,A2,Ad,Ac,List.map_cons,List.map_nil,List.getElem?_cons_zero,Nat.reduceLT,Nat.reduceEqDiff,true_and,and_true,Cc,↓reduceIte,L.p.injEq,Bool.true_and,Bool.and_true,Ja9,Ja6]
   rfl
  ·rw [if_neg hk]
   have htk:kids.list.take kids.len=kids.list:=List.take_of_length_le (by omega)
   rw [htk]
   have hpl:(kids.len≤(E3 kids.list).length)=True:=eq_true (by rw [Fo];omega)
   have hpt:(E3 kids.list).take kids.len=E3 kids.list:=List.take_of_length_le (by rw [Fo];omega)
   skip
   simp only [D3,G2,Dz,Es,Hk,H6,Lo,Fm,Fh,Fs,Fx,Hs,Hl,Jfu,Bu,D7,Hm,Ft,Gl,Eg,Di,B6,Fi,D2,H7,Gw,Ey,Aw,Cq,Bg,Bb,List.map_cons,List.map_nil,List.cons_append,List.nil_append,decide_eq_true_eq,ne_eq,not_false_eq_true,Nat.reduceLeDiff,Nat.reduceEqDiff,↓reduceIte]
   refine ⟨_,St.Le.refl _,?_⟩
   simp only [Ah,Bm,Cn,Ab,Bk,Bd,A1,Bc,Bf,Aj,Ed,Bl,C5,Dv,E0,Ag,Ae,E6,Fu,En,F4,Bs,Cs,Cr,A6,A7,B9,Av,Ap,Al,B7,B5,Af,Am,Ao,Co,Ay,Aw,Dx,Dk,Kn,I9,Te,Kh,G9,A2,Ad,Ac,C6,Bg,Bb,List.map_cons,List.map_nil,List.drop_zero,List.getElem?_cons_zero,Nat.reduceLT,Nat.reduceEqDiff,Cc,↓reduceIte,Nat.zero_add,and_self,Ja9,Ja6,hpl,hpt]
end Go.LX
