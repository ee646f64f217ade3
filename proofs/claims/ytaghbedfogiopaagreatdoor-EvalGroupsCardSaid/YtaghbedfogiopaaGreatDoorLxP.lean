/- Values: parts and names, handed on; rows of values as one. -/
import Derived.Test.YtaghbedfogiopaaGreatDoorLxO
set_option linter.unusedSimpArgs false
set_option linter.unusedVariables false
set_option linter.unusedSectionVars false
set_option linter.unnecessarySimpa false
set_option maxRecDepth 100000
set_option maxHeartbeats 2000000
namespace Go.LX
open Go Go.RowKit Go.Proofs
attribute [local irreducible] Al SWP Bi
theorem Jc9 (nm:List UInt8) (kd:Int) (s:List UInt8) (g:Bool) (e:Int) (kids:Forest) (hv:kids.enc.length<=1499999999999):Det cx 68 [.p (.sl (valL ((Tree.mk kd s g e kids).enc nm)))] [] (.own 900 0 kids.len) [(900,.row 25 1 (A4 kids.list))]:=by
 have hll:=Jqi kids;have hfl:=Jqh kids;(refine bgoR true [(990,900),(500,900)] Tryz.func68 ?_;simp only [go_sem,simprocAttr]);(repeat' (first|((refine Jqa (Hp _) ?_);simp only [go_sem,simprocAttr])|fail));refine Jqg (Jq2 _ (b:=3) (j:=0) (d:=500) 25 1 (.inl de) (T':=53) (cs:=[.p .snil]) rfl rfl) ?_;simp only [St.nilCell,St.nilReg,setCell,go_sem,simprocAttr];(refine SWP.range (Dp kids) 15 [(13,500000)] sm _ _ _ _ _ (fun k R=>R=[(500000,.row 25 1 (A4 (kids.list.take k))),(1001,.var 53 [.own 500000 0 k])]) (fun _ _=>False) (by rfl) (by rfl) (by rfl) (Rt nm kd s g e kids hv) (by simp only [go_sem,simprocAttr] <;> rfl) (by first | rfl | simp [Cg]) sm ?hps (by simp only [go_sem,simprocAttr] <;> rfl) (by simp only [go_sem,simprocAttr] <;> rfl) (by simp only [go_sem,simprocAttr] <;> rfl) ?h0 ?hkI ?hkS ?hSn ?round ?done ?stop)
 case hps=>exact fun x hx=>Fn hx
 case h0=>rfl
 case hkI=>rintro k R rfl;simp [Hg,findKey]
 case hkS=>exact fun _ _ h=>h.elim
 case hSn=>exact fun _ h=>h
 case stop=>exact fun _ _ h=>h.elim
 case round =>
  rintro k x R l hx rfl;obtain ⟨p,hp,rfl⟩:=Fq hx;have hkl:=(Eab.1 hp).1;simp only [go_sem,simprocAttr];(refine lws ?_;simp only [go_sem,simprocAttr]);refine ⟨by simp,by rw [A5,Eaw];omega,by omega,by omega,_,rfl,?_⟩;rw [Gs hp];exact (Jqt (by simp only [Ar]) (by simp (disch:=omega) [Az,A3,Aw,Am,Af,Ai,Au,Aa]) (by simp [Ay]))
 case done =>
  rintro R rfl;rw [E4,Ead omg];simp only [go_sem,simprocAttr];refine ⟨_,St.Le.refl _,?_⟩;simp only [go_sem,simprocAttr]
theorem Jnc (nm:List UInt8) (s:List UInt8) (g:Bool) (e:Int) (kids:Forest) (hv:kids.enc.length<=1499999999999):Det cx 86 [.p (.sl (valL ((Tree.mk 6 s g e kids).enc nm)))] [] (.own 900 0 kids.len) [(900,.row 9 1 (Bd kids.list))]:=by
 have hll:=Jqi kids;have hfl:=Jqh kids;(refine bgoR true [(990,900),(500,900)] Tryz.func86 ?_;simp only [go_sem,simprocAttr,Cc]);(repeat' (first|((refine Jqa (Hp _) ?_);simp only [go_sem,simprocAttr])|fail));refine Jqg (Jq2 _ (b:=3) (j:=0) (d:=500) 9 1 (.inl de) (T':=61) (cs:=[.p .snil]) rfl rfl) ?_;simp only [St.nilCell,St.nilReg,setCell,go_sem,simprocAttr,Cc];(refine SWP.range (Dp kids) 19 [(17,500000)] sm _ _ _ _ _ (fun k R=>R=[(500000,.row 9 1 (Bd (kids.list.take k))),(1001,.var 61 [.own 500000 0 k])]) (fun _ _=>False) (by rfl) (by rfl) (by rfl) (Rt nm 6 s g e kids hv) (by simp only [go_sem,simprocAttr] <;> rfl) (by first | rfl | simp [Cg]) sm ?hps (by simp only [go_sem,simprocAttr] <;> rfl) (by simp only [go_sem,simprocAttr] <;> rfl) (by simp only [go_sem,simprocAttr] <;> rfl) ?h0 ?hkI ?hkS ?hSn ?round ?done ?stop)
 case hps=>exact fun x hx=>Fn hx
 case h0=>rfl
 case hkI=>rintro k R rfl;simp [Hg,findKey]
 case hkS=>exact fun _ _ h=>h.elim
 case hSn=>exact fun _ h=>h
 case stop=>exact fun _ _ h=>h.elim
 case round =>
  rintro k x R l hx rfl;obtain ⟨p,hp,rfl⟩:=Fq hx;have hkl:=(Eab.1 hp).1;simp only [go_sem,simprocAttr];(refine lws ?_;simp only [go_sem,simprocAttr]);refine ⟨by simp,by rw [A9,Eaw];omega,by omega,by omega,_,rfl,?_⟩;rw [Lr hp];exact (Jqt (by simp only [Ar]) (by simp (disch:=omega) [Az,A3,Aw,Am,Af,Ai,Au,Aa]) (by simp [Ay]))
 case done =>
  rintro R rfl;rw [E4,Ead omg];simp only [go_sem,simprocAttr];refine ⟨_,St.Le.refl _,?_⟩;simp only [go_sem,simprocAttr]
theorem Qn (es:List (List PV)) (n:Nat) (x:List UInt8) (h:es.length=n) (hn:n<=1500000000000):Det cx 143 [.own 1000 0 n,.p (.int .i64 n),.own 1001 0 1] [(1001,.row 9 1 [[.str x]]),(1000,.row 9 1 es)] (.own 900 0 (n+1)) [(900,.row 9 1 (es ++ [[.str x]])),(1001,.row 9 1 [[.str x]])]:=by
 (refine bgoR true [(25,900)] Tryz.func143 ?_;simp only [go_sem,simprocAttr]);(repeat' (first|refine Jqj ?_|fail));exact ⟨by simp,(by assumption),by omega,by omega⟩
theorem S0 (es:List (List PV)) (n:Nat) (x:PV) (hx:x.scalar=true) (h:es.length=n) (hn:n<=1500000000000):Det cx 144 [.own 1000 0 n,.p (.int .i64 n),.own 1001 0 1] [(1001,.row 25 1 [[x]]),(1000,.row 25 1 es)] (.own 900 0 (n+1)) [(900,.row 25 1 (es ++ [[x]])),(1001,.row 25 1 [[x]])]:=by
 (refine bgoR true [(25,900)] Tryz.func144 ?_;simp only [go_sem,simprocAttr]);(repeat' (first|refine Jqj ?_|fail));exact ⟨by simp,(by assumption),by omega,by omega⟩
theorem G7 (t:Tree) (nm:List UInt8):(t.enc nm).length=(t.enc []).length:=by
 cases t;rw [A6,A6];simp
theorem Cs (v:List Node) (i:Nat) (nm:List UInt8) (t:Tree) (rest:List Node) (hv:v.length<=1500000000000) (h:v.drop i=t.enc nm ++ rest):Det cx 77 [.p (.sl (valL v)),.p (.int .i64 i)] [] (.p (.int .i64 (i+(t.enc nm).length:Nat))) []:=by
 (refine bgo Tryz.func77 ?_;simp only [go_sem,simprocAttr]);have hp:=Et t nm;have hb:=L9 h (fun e=>by have e2:(t.enc nm ++ rest).length=0:=(by rw [e];rfl);rw [Eac] at e2;omega);rw [Eac] at hb;refine SWP.loop (fun x:Nat×Nat×Forest=>⟨Ba 41 [(0,.p (.sl (valL v))),(1,.p (.int .i64 x.1)),(5,.p (.int .i64 x.2.1))],[]⟩) (fun x=>x.2.1=x.2.2.len/\v.drop x.1=x.2.2.enc ++ rest/\x.1+x.2.2.enc.length=i+(t.enc nm).length) (fun x=>x.2.2.enc.length) (i,1,.cons nm t .nil) Jqc ⟨rfl,by simp [A0,Bl,h],by simp [A0,Bl]⟩ ?_;rintro ⟨j,left,F⟩ ⟨h0,h1,h2⟩;simp only at h0 h1 h2
 match F,h0,h1,h2 with
 | .nil,h0,h1,h2 =>
  rw [Bl] at h2;simp only [Forest.len] at h0;subst h0;(refine lws ?_;simp only [go_sem,simprocAttr]);simp only [List.length_nil] at h2;omega
 | .cons nm' (.mk k s g e kids) r,h0,h1,h2 =>
  rw [F2] at h0;rw [A0,A6] at h1 h2;have hg:=D5 h1;rw [C9] at hg;simp only [List.length_cons,Eac] at h2;have hl1:=Jqi kids;have hl2:=Jqi r;have w0:IntKind.i64.wrap ((left:Int) - 1)=(r.len:Int):=by rw [Aa omg omg];omega
  have w1:IntKind.i64.wrap ((r.len:Int)+(kids.len:Int))=((r.len+kids.len:Nat):Int):=by rw [Aa omg omg];omega
  (refine lws ?_;simp only [go_sem,simprocAttr,wj1 (i:=j) omg,hg,w0,w1,A7]);(repeat' (first|(apply iteI<;>intro h)|(exfalso;omega)))
  ·exact ⟨(j+1,r.len+kids.len,kids.app r),⟨by simp only [Jrz];omega,by
    simp only [Jqk];rw [<- Ebg,h1];simp,by simp only [Jqk,Eac];omega⟩,by simp only [Jqk,A0,A6,Eac,List.length_cons];omega,Jqc⟩
theorem Mi {v:List Node} {j:Nat} {nm:List UInt8} {t:Tree} {b:List Node} (h:v.drop j=t.enc nm ++ b):∃ k n s g e,(valL v)[j]? = some [.int .i64 k,.int .i64 n,.str nm,.str s,.bool g,.int .i64 e]:=by
 cases t with
 | mk k s g e kids =>
  rw [A6] at h;exact ⟨k,kids.len,s,g,e,D5 h⟩
def unn (l:List (List UInt8×Tree)):List (List UInt8×Tree):=l.map fun p=>([],p.2)
theorem Kp (l:List (List UInt8×Tree)):(unn l).length=l.length:=by simp [unn]
def hdK (k:Int) (n:Nat):List PV:=[.int .i64 k,.int .i64 n,.str [],.str [],.bool false,.int .i64 0]
theorem Oi (l:List (List UInt8×Tree)) (k:Nat):(A1 (l.take k)).enc.length<=(A1 l).enc.length:=by
 have e1:A1 l=(A1 (l.take k)).app (A1 (l.drop k)):=by rw [<- Hz,Ebl]
 rw [e1,Jqk,Eac];omega
theorem Nu {l:List (List UInt8×Tree)} {k:Nat} {p:List UInt8×Tree} (h:l[k]? = some p):(A1 (l.take (k+1))).enc=(A1 (l.take k)).enc ++ p.2.enc p.1:=by
 rw [Ea8,h,Option.toList_some,Hz,Jqk];simp only [A1,A0,Bl,Eaz]
theorem Rf (l:List (List UInt8×Tree)) (k:Nat):unn (l.take k)=(unn l).take k:=by simp [unn]
theorem Iy (l:List (List UInt8×Tree)) (hv:(A1 l).enc.length<=1499999999999):Det cx 83 [.p (.sl (Bd l)),.p (.sl (A4 l))] [] (.p (.sl (valL ((Tree.mk 6 [] false 0 (A1 l)).enc [])))) []:=by
 have hll:=Jqi (A1 l);rw [Ca] at hll;(refine bgo Tryz.func83 ?_;simp only [go_sem,simprocAttr,A5]);refine Jqg (B1 [(12,26)] _ sm) ?_;simp only [go_sem,simprocAttr];refine SWP.loop (fun x:Nat×Nat×List (List PV)=>⟨Ba 41 [(0,.p (.sl (Bd l))),(1,.p (.sl (A4 l))),(5,.own 26 0 x.2.1),(6,.p (.int .i64 x.1))],[(26,.row 36 6 x.2.2)]⟩) (fun x=>x.1<=l.length/\x.2.1=(A1 (l.take x.1)).enc.length+1/\x.2.2=hdK 6 l.length :: valL (A1 (l.take x.1)).enc) (fun x=>l.length - x.1) (0,1,[hdK 6 l.length]) (by unfold hdK;exact Jqc) ⟨Eav _,rfl,rfl⟩ ?_;rintro ⟨k,m,es⟩ ⟨hk,hm',hes⟩;simp only at hk hm' hes;have hml:es.length=m:=by rw [hes,hm'];simp
 have htk:es.take m=es:=Ead omg;by_cases hlt:¬ k<l.length
 ·have htl:l.take k=l:=Ead omg;rw [htl] at hes hm';have hkl:((k:Int)<(l.length:Int))=False:=eq_false omg;have hpl:=hkl;have hnl:=hkl;have hge:=hkl;have hsp:=hkl;have hw:=hkl;have hvl:=hkl;(refine lws ?_;simp only [go_sem,simprocAttr,A5,hkl,hml,htk,Eai]);rw [hes,A6,Ca];rfl
 ·have hlt:=Ea1.1 hlt;obtain ⟨p,hp⟩:∃ p,l[k]? = some p:=⟨_,Eaa hlt⟩
  have hpl:(A4 l)[k]? = some [.sl (valL (p.2.enc []))]:=by simp [A4,hp]
  have hnl:(Bd l)[k]? = some [.str p.1]:=by simp [Bd,hp]
  have hkl:((k:Int)<(l.length:Int))=True:=eq_true omg;have h1:=Nu hp;have h2:=Oi l (k+1);rw [h1,Eac] at h2;have hw:=wj1 (i:=k) omg;obtain ⟨⟨nm',t⟩,rfl⟩:∃ q,q=p:=⟨p,rfl⟩
  cases t with
  | mk kd' s' g' e' kids' =>
  have hge:(es ++ valL ((Tree.mk kd' s' g' e' kids').enc []))[m]? = some [.int .i64 kd',.int .i64 kids'.len,.str [],.str s',.bool g',.int .i64 e']:=by
   rw [Ean omg,hml,Nat.sub_self,A6];rfl
  have hsp:(es ++ valL ((Tree.mk kd' s' g' e' kids').enc [])).set m [.int .i64 kd',.int .i64 kids'.len,.str nm',.str s',.bool g',.int .i64 e']=es ++ valL ((Tree.mk kd' s' g' e' kids').enc nm'):=by
   rw [List.set_append_right _ _ omg,hml,Nat.sub_self,A6,A6];rfl
  have hvl:((Tree.mk kd' s' g' e' kids').enc []).length=((Tree.mk kd' s' g' e' kids').enc nm').length:=by rw [G7 _ nm']
  simp only at h1 h2;(refine lws ?_;simp only [go_sem,simprocAttr,A5,hkl,hpl,hnl,hge,hsp,hw,hvl,hml,Eai,A7]);have hpos:=Et (Tree.mk kd' s' g' e' kids') nm';refine ⟨E7 _,by omega,by omega,?_⟩;(repeat' (first|refine Jqj ?_|fail));refine ⟨(k+1,m+((Tree.mk kd' s' g' e' kids').enc nm').length,es ++ valL ((Tree.mk kd' s' g' e' kids').enc nm')),⟨by simp only;omega,?_,?_⟩,by simp only;omega,?_⟩
  ·simp only;rw [h1,Eac,hm'];omega
  ·simp only;rw [h1,Ji,hes];rfl
  ·exact Jqc
theorem d_tz:Det cx 240 [.p (.int .u64 16)] [] (.p (.int .i64 4)) []:=by
 refine Jr1 (v:=.int .i64 4) (enters_of Tryz.func240 kr rfl) rfl (fun _ _ _=>.int _ _) fun β Im w vs hg hf=>?_
 obtain ⟨v,rfl,hv⟩:=fit1 hf;have:=Mz hv;subst this;have hc:Lib.ctz 64 16=4:=by decide
 refine (Any7.bits_TrailingZeros J2g 16 de w (fun _=>(Jbj hg).tz)).mono fun e w' ⟨he,hw⟩=>?_
 subst hw;rw [hc] at he;exact ⟨he,Below.refl _ _⟩
theorem Rj:Det cx 239 [.p (.int .i64 16)] [] (.p (.bool true)) []:=by
 (refine bgo Tryz.func239 ?_;simp only [go_sem,simprocAttr]);decide
theorem f_z133:Bu Tryz.prog 230=some [.int .u8 0,.int .u8 0,.int .u8 0,.int .u8 0,.int .u8 0,.int .u8 0,.int .u8 0,.int .u8 0,.int .u8 0,.int .u8 0,.int .u8 0,.int .u8 0,.int .u8 0,.int .u8 0,.int .u8 0,.int .u8 0,.int .u8 0,.int .u8 0,.int .u8 0,.int .u8 0,.int .u8 0,.int .u8 0,.int .u8 0,.int .u8 0,.int .u8 0,.int .u8 0,.int .u8 0,.int .u8 0,.int .u8 0,.int .u8 0,.int .u8 0,.int .u8 0,.int .u8 0,.int .u8 0,.int .u8 0,.int .u8 0,.int .u8 0,.int .u8 0,.int .u8 0,.int .u8 0,.int .u8 0,.int .u8 0,.int .u8 0,.int .u8 0,.int .u8 0,.int .u8 0,.int .u8 0,.int .u8 0,.int .u8 0,.int .u8 0,.int .u8 0,.int .u8 0,.int .u8 0,.int .u8 0,.int .u8 0,.int .u8 0,.int .u8 0,.int .u8 0,.int .u8 0,.int .u8 0,.int .u8 0,.int .u8 0,.int .u8 0,.int .u8 0,.int .u8 0]:=kr
theorem wc1:IntKind.u64.wrap 16=16:=by decide
theorem wc2:IntKind.u64.wrap 15=15:=by decide
theorem wc3:IntKind.u64.wrap 4=4:=by decide
theorem wc4:IntKind.i64.wrap 64=64:=by decide
theorem wc5:IntKind.i64.wrap 63=63:=by decide
theorem wc6:IntKind.i64.wrap 62=62:=by decide
theorem Jjm (x:Nat):IntKind.u64.wrap (BitVec.ofInt (B0 .u64) (x:Int) &&& BitVec.ofInt (B0 .u64) 15).toNat=((x % 16:Nat):Int):=by
 have e:(BitVec.ofInt (B0 .u64) (x:Int) &&& BitVec.ofInt (B0 .u64) 15).toNat=x % 16:=by
  show (BitVec.ofInt 64 (x:Int) &&& BitVec.ofInt 64 15).toNat=x % 16;rw [BitVec.toNat_and,show (BitVec.ofInt 64 15).toNat=2 ^ 4 - 1 by decide,Nat.and_two_pow_sub_one_eq_mod];simp
 rw [e,Mf omg omg]
theorem fd4 (x:Nat):(x:Int).fdiv (2 ^ min 4 (B0 .u64))=((x / 16:Nat):Int):=by
 rw [Ecj _ de];simp [B0,IntKind.bits]
def hexds:List UInt8:=[48,49,50,51,52,53,54,55,56,57,97,98,99,100,101,102,103,104,105,106,107,108,109,110,111,112,113,114,115,116,117,118,119,120,121,122]
def hexd (n:Nat):UInt8:=hexds.getD n 0
theorem Mj (u:Nat) (h1:256<=u) (h2:u<4096):Det cx 205 [.p .snil,.p (.int .u64 u),.p (.int .i64 16),.p (.bool false),.p (.bool false)] [] (.tup [.snil,.str [hexd (u / 16 / 16),hexd (u / 16 % 16),hexd (u % 16)]]) []:=by
 (refine bgo Tryz.func205 ?_;simp only [go_sem,simprocAttr,f_z133]);(repeat' (first|((first|refine Jqa d_tz ?_|refine Jqa Rj ?_);simp only [go_sem,simprocAttr,wc1,wc2,wc3])|fail));(refine SWP.rounds 4 ?_;refine Jss hm ?_;simp only [go_sem,simprocAttr,wc4,Jjm,fd4]);(repeat' (first|(apply iteI<;>intro h)|refine Jqj ?_|(refine Jss hm ?_;simp only [go_sem,simprocAttr,wc5,wc6,Jjm,fd4])|(exfalso;omega)));exact ⟨rfl,rfl,rfl⟩
def hex3 (u:Nat):List UInt8:=[hexd (u / 16 / 16),hexd (u / 16 % 16),hexd (u % 16)]
theorem wcn {u:Nat} (h:u<4096):IntKind.u64.wrap (u:Int)=u:=Mf omg omg
theorem Ke (u:Nat) (h1:256<=u) (h2:u<4096):Det cx 177 [.p (.int .i64 u),.p (.int .i64 16)] [] (.p (.str (hex3 u))) []:=by
 (refine bgo Tryz.func177 ?_;simp only [go_sem,simprocAttr,wcn h2]);(repeat' (first|((refine Jqa (Mj u h1 h2) ?_);simp only [go_sem,simprocAttr,wcn h2])|fail));rfl
theorem Ph (u:Nat) (h1:256<=u) (h2:u<4096):Det cx 216 [.p (.int .i64 u),.p (.int .i64 16)] [] (.p (.str (hex3 u))) []:=by
 (refine bgo Tryz.func216 ?_;simp only [go_sem,simprocAttr]);(repeat' (first|((refine Jqa (Ke u h1 h2) ?_);simp only [go_sem,simprocAttr])|fail))
def low (c:Nat):Nat:=if c / 32 % 2=1 then c else c+32
theorem or32 (c:Nat) (h:c<=255):IntKind.u8.wrap (BitVec.ofInt (B0 .u8) (c:Int) ||| BitVec.ofInt (B0 .u8) 32).toNat=(low c:Int):=by
 have key:∀ m:Fin 256,IntKind.u8.wrap (BitVec.ofInt (B0 .u8) (m.val:Int) ||| BitVec.ofInt (B0 .u8) 32).toNat=(low m.val:Int):=by decide
 exact key ⟨c,by omega⟩
theorem Jde (c:Nat) (h:c<=255):Det cx 273 [.p (.int .u8 c)] [] (.p (.int .u8 (low c))) []:=by
 (refine bgo Tryz.func273 ?_;simp only [go_sem,simprocAttr]);rw [or32 c h]
def hexv (c:Nat):Option Nat:=if 48<=c/\c<=57 then some (c - 48) else if 97<=c/\c<=102 then some (c - 87) else if 65<=c/\c<=70 then some (c - 55) else none
def hexN:List UInt8->Nat->Option Nat
 | [],a=>some a
 | c :: s,a=>match hexv c.toNat with
  | some d=>hexN s (a * 16+d)
  | none=>none
def Jbb (o:Option Nat):L:=match o with
 | some n=>.tup [.int .u64 n,.nifc]
 | none=>.tup [.int .u64 0,.ifi 236 .i64 2]
theorem Jdb (s:List UInt8) (i:Nat):(s.getD i default).toNat=at_ s i:=rfl
theorem wc7:IntKind.u64.wrap (1 * 2 ^ min 16 (B0 .u64))=65536:=by decide
theorem wc8:IntKind.u64.wrap 65535=65535:=by decide
theorem Nn {s:List UInt8} {i n:Nat} (h:i<s.length):hexN (s.drop i) n=(match hexv (at_ s i) with | some d=>hexN (s.drop (i+1)) (n * 16+d) | none=>none):=by
 rw [Eax h];simp only [hexN];rw [Ql h]
theorem Je6 (c:Nat):(c / 32 % 2=1/\low c=c)\/(c / 32 % 2≠1/\low c=c+32):=by
 unfold low;split <;> omega
theorem Kf (s:List UInt8) (hs:s.length=4):Det cx 267 [.p (.str s),.p (.int .i64 16),.p (.int .i64 16)] [] (Jbb (hexN s 0)) []:=by
 (refine bgo Tryz.func267 ?_;simp only [go_sem,simprocAttr,wc1,wc7,wc8]);(repeat' (first|(apply iteI<;>intro h)|(exfalso;omega)));refine SWP.loop (fun x:Nat×Nat=>⟨Ba 172 [(1,.p (.int .i64 16)),(2,.p (.int .i64 16)),(8,.p (.bool false)),(9,.p (.str s)),(10,.p (.int .u64 1152921504606846976)),(11,.p (.int .u64 65535)),(12,.p (.bool false)),(13,.p (.int .u64 x.2)),(99,.p (.sl (s.map fun c=>[.int .u8 c.toNat]))),(100,.p (.int .i64 s.length)),(101,.p (.int .i64 x.1))],[]⟩) (fun x=>x.1<=4/\x.2<16 ^ x.1/\hexN (s.drop x.1) x.2=hexN s 0) (fun x=>4 - x.1) (0,0) Jqc ⟨by omega,by decide,rfl⟩ ?_;rintro ⟨i,n⟩ ⟨h1,h2,h3⟩;(refine lws ?_;simp only [go_sem,simprocAttr,wc1,Jdb]);simp only at h1 h2 h3;have hL:=Je6 (at_ s i);have hA:=Fr s i;have hP:i<4->n<4096:=fun h=>Ebd h2 (Nat.le_trans (Eco de (show i<=3 by omega)) de)
 have hS:i<4->∀ d<16,n * 16+d<16 ^ (i+1):=fun h d hd=>by rw [Nat.pow_succ];omega
 (repeat' (first|(apply iteI<;>intro h)|refine Jqj ?_|((refine Jqa (Jde _ (Fr s i)) ?_);simp only [go_sem,simprocAttr,wc1])|(exfalso;omega)))
 all_goals (try simp only [Be,Ub] at *)
 all_goals first
  | (exfalso;omega)
  | (
   have e:hexN s 0=none:=by
    rw [<- h3,Nn omg,show hexv (at_ s i)=none by unfold hexv;rw [if_neg omg,if_neg omg,if_neg omg]]
   rw [e];rfl)
  | (
   have e:hexN s 0=some n:=by
    rw [<- h3,Ear omg];rfl
   rw [e];rfl)
  | (
   have h57:at_ s i<=57:=by omega
   obtain ⟨d,hd,hv,ho⟩:∃ d,d<16/\hexv (at_ s i)=some d/\(d:Int)=at_ s i - 48:=⟨at_ s i - 48,by omega,by unfold hexv;rw [if_pos omg],by omega⟩
   refine ⟨(i+1,n * 16+d),⟨by simp only;omega,hS omg d hd,?_⟩,by simp only;omega,Jqc⟩;simp only;rw [<- h3,Nn (i:=i) (n:=n) omg,hv])
  | (
   obtain ⟨d,hd,hv,ho⟩:∃ d,d<16/\hexv (at_ s i)=some d/\(d:Int)=low (at_ s i) - 87:=by
    by_cases h97:97<=at_ s i
    ·exact ⟨at_ s i - 87,by omega,by unfold hexv;rw [if_neg omg,if_pos omg],by omega⟩
    ·exact ⟨at_ s i - 55,by omega,by unfold hexv;rw [if_neg omg,if_neg omg,if_pos omg],by omega⟩
   refine ⟨(i+1,n * 16+d),⟨by simp only;omega,hS omg d hd,?_⟩,by simp only;omega,Jqc⟩;simp only;rw [<- h3,Nn (i:=i) (n:=n) omg,hv])
end Go.LX
namespace Go.LX
open Go
def dec (s:List UInt8) (i:Nat):Nat×Nat:=Utf8.decode ⟨⟨s⟩⟩ i
def ct (s:List UInt8) (k:Nat):Bool:=decide (k<s.length) && (decide (128<=at_ s k) && decide (at_ s k<192))
def rlen (s:List UInt8) (i:Nat):Nat :=
 if at_ s i<128 then 1
 else if 194<=at_ s i/\at_ s i<224/\ct s (i+1)=true then 2
 else if 224<=at_ s i/\at_ s i<240/\ct s (i+1)=true/\ct s (i+2)=true then
  (if (at_ s i=224/\at_ s (i+1)<160)\/(at_ s i=237/\160<=at_ s (i+1)) then 0 else 3)
 else if 240<=at_ s i/\at_ s i<245/\ct s (i+1)=true/\ct s (i+2)=true/\ct s (i+3)=true then
  (if (at_ s i=240/\at_ s (i+1)<144)\/(at_ s i=244/\144<=at_ s (i+1)) then 0 else 4)
 else 0
def code (s:List UInt8) (i:Nat):Nat :=
 if at_ s i<128 then at_ s i
 else if at_ s i<224 then at_ s i % 32 * 64+at_ s (i+1) % 64
 else if at_ s i<240 then at_ s i % 16 * 4096+at_ s (i+1) % 64 * 64+at_ s (i+2) % 64
 else at_ s i % 8 * 262144+at_ s (i+1) % 64 * 4096+at_ s (i+2) % 64 * 64+at_ s (i+3) % 64
theorem get_at (s:List UInt8) (k:Nat):((⟨⟨s⟩⟩:ByteArray).get! k).toNat=at_ s k:=by
 simp only [ByteArray.get!,at_,Eah];by_cases h:k<s.length
 ·simp [h]
 ·simp [h];rfl
theorem J3 {s:List UInt8} {k:Nat}:ct s k=true ↔ k<s.length/\at_ s k / 64=2:=by
 simp only [ct,Ebb,decide_eq_true_eq];omega
theorem Jf4 (c:Nat):Utf8.valid (c:Int)=true ↔ c<55296\/(57344<=c/\c<=1114111):=by
 simp only [Utf8.valid,Eb4,Ebb,decide_eq_true_eq];omega
theorem F1 (s:List UInt8) (i:Nat):dec s i=if rlen s i=0 then (65533,1) else (code s i,rlen s i):=by
 have hb:=Fr s i;unfold dec Utf8.decode;simp only [get_at,Nat.add_zero];have hsz:(⟨⟨s⟩⟩:ByteArray).size=s.length:=rfl;simp only [hsz,Ebb,beq_iff_eq,decide_eq_true_eq,Utf8.runeError,Jf4];unfold rlen code;simp only [J3];by_cases h1:at_ s i<128
 ·simp [h1]
 by_cases h2:at_ s i<224
 ·by_cases h2':i+1<s.length/\at_ s (i+1) / 64=2
  ·have e5:¬ 224<=at_ s i:=by omega
   have e6:¬ 240<=at_ s i:=by omega
   by_cases h194:194<=at_ s i
   ·have e1:at_ s i / 32=6:=by omega
    have e2:128<=at_ s i % 32 * 64+at_ s (i+1) % 64:=by omega
    simp [h1,h2,h2',h194,e1,e2]
   ·by_cases h192:192<=at_ s i
    ·have e1:at_ s i / 32=6:=by omega
     have e2:¬ 128<=at_ s i % 32 * 64+at_ s (i+1) % 64:=by omega
     simp [h1,h2,h2',h194,e1,e2,e5,e6]
    ·have e1:¬ at_ s i / 32=6:=by omega
     have e3:¬ at_ s i / 16=14:=by omega
     have e4:¬ at_ s i / 8=30:=by omega
     simp [h1,h2,h2',h194,e1,e3,e4,e5,e6]
  ·have e3:¬ at_ s i / 16=14:=by omega
   have e4:¬ at_ s i / 8=30:=by omega
   have e5:¬ 224<=at_ s i:=by omega
   have e6:¬ 240<=at_ s i:=by omega
   simp [h1,h2,h2',e3,e4,e5,e6]
 have e1:¬ at_ s i / 32=6:=by omega
 by_cases h3:at_ s i<240
 ·have e3:at_ s i / 16=14:=by omega
  have e4:¬ at_ s i / 8=30:=by omega
  have e5:224<=at_ s i:=by omega
  have e6:¬ 240<=at_ s i:=by omega
  by_cases c1:i+1<s.length/\at_ s (i+1) / 64=2
  ·by_cases c2:i+2<s.length/\at_ s (i+2) / 64=2
   ·by_cases hb2:(at_ s i=224/\at_ s (i+1)<160)\/(at_ s i=237/\160<=at_ s (i+1))
    ·have:¬ (2048<=at_ s i % 16 * 4096+at_ s (i+1) % 64 * 64+at_ s (i+2) % 64/\(at_ s i % 16 * 4096+at_ s (i+1) % 64 * 64+at_ s (i+2) % 64<55296\/57344<=at_ s i % 16 * 4096+at_ s (i+1) % 64 * 64+at_ s (i+2) % 64/\at_ s i % 16 * 4096+at_ s (i+1) % 64 * 64+at_ s (i+2) % 64<=1114111)):=by omega
     simp only [h1,h2,e1,e3,e5,h3,c1,c2,hb2,and_true,true_and,if_true,if_false,false_and,and_false,and_self,ge_iff_le,this]
    ·have:(2048<=at_ s i % 16 * 4096+at_ s (i+1) % 64 * 64+at_ s (i+2) % 64/\(at_ s i % 16 * 4096+at_ s (i+1) % 64 * 64+at_ s (i+2) % 64<55296\/57344<=at_ s i % 16 * 4096+at_ s (i+1) % 64 * 64+at_ s (i+2) % 64/\at_ s i % 16 * 4096+at_ s (i+1) % 64 * 64+at_ s (i+2) % 64<=1114111)):=by omega
     simp only [h1,h2,e1,e3,e5,h3,c1,c2,hb2,and_true,true_and,if_true,if_false,false_and,and_false,and_self,ge_iff_le,this];simp
   ·simp [h1,h2,e1,e3,e4,e5,e6,h3,c2]
  ·simp [h1,h2,e1,e3,e4,e5,e6,h3,c1]
 ·have e3:¬ at_ s i / 16=14:=by omega
  have e5:240<=at_ s i:=by omega
  by_cases h4:at_ s i<248
  ·have e4:at_ s i / 8=30:=by omega
   by_cases c1:i+1<s.length/\at_ s (i+1) / 64=2
   ·by_cases c2:i+2<s.length/\at_ s (i+2) / 64=2
    ·by_cases c3:i+3<s.length/\at_ s (i+3) / 64=2
     ·by_cases h5:at_ s i<245
      ·by_cases hb2:(at_ s i=240/\at_ s (i+1)<144)\/(at_ s i=244/\144<=at_ s (i+1))
       ·have:¬ (65536<=at_ s i % 8 * 262144+at_ s (i+1) % 64 * 4096+at_ s (i+2) % 64 * 64+at_ s (i+3) % 64/\(at_ s i % 8 * 262144+at_ s (i+1) % 64 * 4096+at_ s (i+2) % 64 * 64+at_ s (i+3) % 64<55296\/57344<=at_ s i % 8 * 262144+at_ s (i+1) % 64 * 4096+at_ s (i+2) % 64 * 64+at_ s (i+3) % 64/\at_ s i % 8 * 262144+at_ s (i+1) % 64 * 4096+at_ s (i+2) % 64 * 64+at_ s (i+3) % 64<=1114111)):=by omega
        simp only [h1,h2,h3,e1,e3,e4,e5,h5,c1,c2,c3,hb2,and_true,true_and,if_true,if_false,false_and,and_false,and_self,ge_iff_le,this]
       ·have:(65536<=at_ s i % 8 * 262144+at_ s (i+1) % 64 * 4096+at_ s (i+2) % 64 * 64+at_ s (i+3) % 64/\(at_ s i % 8 * 262144+at_ s (i+1) % 64 * 4096+at_ s (i+2) % 64 * 64+at_ s (i+3) % 64<55296\/57344<=at_ s i % 8 * 262144+at_ s (i+1) % 64 * 4096+at_ s (i+2) % 64 * 64+at_ s (i+3) % 64/\at_ s i % 8 * 262144+at_ s (i+1) % 64 * 4096+at_ s (i+2) % 64 * 64+at_ s (i+3) % 64<=1114111)):=by omega
        simp only [h1,h2,h3,e1,e3,e4,e5,h5,c1,c2,c3,hb2,and_true,true_and,if_true,if_false,false_and,and_false,and_self,ge_iff_le,this];simp
      ·have:¬ (65536<=at_ s i % 8 * 262144+at_ s (i+1) % 64 * 4096+at_ s (i+2) % 64 * 64+at_ s (i+3) % 64/\(at_ s i % 8 * 262144+at_ s (i+1) % 64 * 4096+at_ s (i+2) % 64 * 64+at_ s (i+3) % 64<55296\/57344<=at_ s i % 8 * 262144+at_ s (i+1) % 64 * 4096+at_ s (i+2) % 64 * 64+at_ s (i+3) % 64/\at_ s i % 8 * 262144+at_ s (i+1) % 64 * 4096+at_ s (i+2) % 64 * 64+at_ s (i+3) % 64<=1114111)):=by omega
       simp only [h1,h2,h3,e1,e3,e4,e5,h5,c1,c2,c3,and_true,true_and,if_true,if_false,false_and,and_false,and_self,ge_iff_le,this]
     ·simp [h1,h2,h3,e1,e3,e4,e5,c3]
    ·simp [h1,h2,h3,e1,e3,e4,e5,c2]
   ·simp [h1,h2,h3,e1,e3,e4,e5,c1]
  ·have e4:¬ at_ s i / 8=30:=by omega
   have h5:¬ at_ s i<245:=by omega
   simp [h1,h2,h3,e1,e3,e4,e5,h5]
theorem Ko (s:List UInt8) (i k:Nat):at_ (s.drop i) k=at_ s (i+k):=by
 simp [at_,Eah]
theorem Jx {a b:List UInt8} {k:Nat} (h:k<a.length):at_ (a ++ b) k=at_ a k:=by
 simp [at_,Eah,Eaq h]
theorem Ib {a b:List UInt8} {k:Nat} (h:a.length<=k):at_ (a ++ b) k=at_ b (k - a.length):=by
 simp [at_,Eah,Ean h]
theorem Gu (c:UInt8) (s:List UInt8):at_ (c :: s) 0=c.toNat:=rfl
theorem Jk0 (c:UInt8) (s:List UInt8) (k:Nat):at_ (c :: s) (k+1)=at_ s k:=rfl
theorem at_out {s:List UInt8} {k:Nat} (h:s.length<=k):at_ s k=0:=by
 simp [at_,Eah,Ec1 h]
theorem Jov (s:List UInt8) (i k:Nat):ct (s.drop i) k=ct s (i+k):=by
 have:decide (k<(s.drop i).length)=decide (i+k<s.length):=by rw [Ea4];congr 1;apply propext;omega
 simp only [ct,Ko,this]
theorem Ny (s:List UInt8) (i k:Nat):rlen (s.drop i) k=rlen s (i+k):=by
 simp only [rlen,Ko,Jov,<- Ebx]
theorem Jhn (s:List UInt8) (i k:Nat):code (s.drop i) k=code s (i+k):=by
 simp only [code,Ko,<- Ebx]
theorem Qy (s:List UInt8) (i k:Nat):dec (s.drop i) k=dec s (i+k):=by
 simp only [F1,Ny,Jhn]
theorem M4 (s:List UInt8) (i:Nat) (h:i<s.length):i+rlen s i<=s.length:=by
 unfold rlen;simp only [J3]
 repeat' split
 all_goals omega
theorem Qv (s:List UInt8) (i:Nat):rlen s i<=4:=by
 unfold rlen
 repeat' split
 all_goals omega
theorem Pz (s:List UInt8) (k:Nat):u8of (at_ s k)=s.getD k 0:=by
 apply UInt8.toNat_inj.1;have:=Fr s k;have h:=B8 (c:=(at_ s k:Int)) omg omg;simp only [at_] at h ⊢;omega
theorem Je8 {s:List UInt8} {i:Nat} (n:Nat) (h:i+n<=s.length):(s.drop i).take n=(List.range n).map fun k=>s.getD (i+k) 0:=by
 apply Eb9;intro j;rw [Eao,Eam];by_cases hj:j<n
 ·have hl:i+j<s.length:=by omega
  simp [hj,hl]
 ·simp [hj]
theorem Fd (s:List UInt8) (i:Nat):rlen s i=0\/(rlen s i=1/\at_ s i<128) \/
  (rlen s i=2/\194<=at_ s i/\at_ s i<224/\at_ s (i+1) / 64=2) \/
  (rlen s i=3/\224<=at_ s i/\at_ s i<240/\at_ s (i+1) / 64=2/\at_ s (i+2) / 64=2/\¬ (at_ s i=224/\at_ s (i+1)<160)/\¬ (at_ s i=237/\160<=at_ s (i+1))) \/
  (rlen s i=4/\240<=at_ s i/\at_ s i<245/\at_ s (i+1) / 64=2/\at_ s (i+2) / 64=2/\at_ s (i+3) / 64=2/\¬ (at_ s i=240/\at_ s (i+1)<144)/\¬ (at_ s i=244/\144<=at_ s (i+1))):=by
 unfold rlen;simp only [J3]
 repeat' split
 all_goals omega
theorem H5 {s:List UInt8} {i:Nat} (h:rlen s i≠0) (hi:i<s.length):utf (code s i)=(s.drop i).take (rlen s i):=by
 have hle:=M4 s i hi;have h0:=Fr s i;have h1:=Fr s (i+1);have h2:=Fr s (i+2);have h3:=Fr s (i+3);rw [Je8 _ hle];rcases Fd s i with e | ⟨e,g1⟩ | ⟨e,g1,g2,g3⟩ | ⟨e,g1,g2,g3,g4,g5,g6⟩ | ⟨e,g1,g2,g3,g4,g5,g6,g7⟩
 ·exact absurd e h
 ·have ec:code s i=at_ s i:=by unfold code;rw [if_pos g1]
  rw [e,ec,utf,Nb omg];simp [Ec6,Pz]
 ·have ec:code s i=at_ s i % 32 * 64+at_ s (i+1) % 64:=by unfold code;rw [if_neg omg,if_pos omg]
  have l:utfC (code s i)=[(at_ s i:Int),(at_ s (i+1):Int)]:=by
   rw [Oc (by rw [ec];omega),ec];congr 1
   ·omega
   ·congr 1;omega
  rw [e,utf,l];simp [Ec6,Pz]
 ·have ec:code s i=at_ s i % 16 * 4096+at_ s (i+1) % 64 * 64+at_ s (i+2) % 64:=by unfold code;rw [if_neg omg,if_neg omg,if_pos omg]
  have l:utfC (code s i)=[(at_ s i:Int),(at_ s (i+1):Int),(at_ s (i+2):Int)]:=by
   rw [Nd (by rw [ec];omega),ec];congr 1
   ·omega
   ·congr 1
    ·omega
    ·congr 1;omega
  rw [e,utf,l];simp [Ec6,Pz]
 ·have ec:code s i=at_ s i % 8 * 262144+at_ s (i+1) % 64 * 4096+at_ s (i+2) % 64 * 64+at_ s (i+3) % 64:=by unfold code;rw [if_neg omg,if_neg omg,if_neg omg]
  have l:utfC (code s i)=[(at_ s i:Int),(at_ s (i+1):Int),(at_ s (i+2):Int),(at_ s (i+3):Int)]:=by
   rw [Nk (by rw [ec];omega),ec];congr 1
   ·omega
   ·congr 1
    ·omega
    ·congr 1
     ·omega
     ·congr 1;omega
  rw [e,utf,l];simp [Ec6,Pz]
def Cy (r:Int):Prop:=(0<=r/\r<55296)\/(57344<=r/\r<=1114111)
theorem Fm {s:List UInt8} {i:Nat} (h:rlen s i≠0):Cy (code s i):=by
 have h0:=Fr s i;unfold Cy;rcases Fd s i with e | ⟨e,g1⟩ | ⟨e,g1,g2,g3⟩ | ⟨e,g1,g2,g3,g4,g5,g6⟩ | ⟨e,g1,g2,g3,g4,g5,g6,g7⟩
 ·exact absurd e h
 ·have ec:code s i=at_ s i:=by unfold code;rw [if_pos g1]
  omega
 ·have ec:code s i=at_ s i % 32 * 64+at_ s (i+1) % 64:=by unfold code;rw [if_neg omg,if_pos omg]
  omega
 ·have ec:code s i=at_ s i % 16 * 4096+at_ s (i+1) % 64 * 64+at_ s (i+2) % 64:=by unfold code;rw [if_neg omg,if_neg omg,if_pos omg]
  omega
 ·have ec:code s i=at_ s i % 8 * 262144+at_ s (i+1) % 64 * 4096+at_ s (i+2) % 64 * 64+at_ s (i+3) % 64:=by unfold code;rw [if_neg omg,if_neg omg,if_neg omg]
  omega
theorem Rp {r:Int} (h:Cy r) (t:List UInt8):rlen (utf r ++ t) 0=(utf r).length/\(code (utf r ++ t) 0:Int)=r:=by
 unfold Cy at h;by_cases c1:r<128
 ·have e:=Nb (r:=r) omg;have a0:=B8 (c:=r) omg omg;simp only [utf,e,Eat,Eb5,List.cons_append,List.nil_append,List.length_cons,List.length_nil];have e0:at_ (u8of r :: t) 0=(u8of r).toNat:=rfl;unfold rlen code;rw [if_pos (by rw [e0];omega),if_pos (by rw [e0];omega),e0];exact ⟨rfl,a0⟩
 by_cases c2:r<2048
 ·have e:=Oc (r:=r) omg;have a0:=B8 (c:=192+r / 64) omg omg;have a1:=B8 (c:=128+r % 64) omg omg;simp only [utf,e,Eat,Eb5,List.cons_append,List.nil_append,List.length_cons,List.length_nil];generalize hs:u8of (192+r / 64) :: u8of (128+r % 64) :: t=s;have e0:at_ s 0=(u8of (192+r / 64)).toNat:=by rw [<- hs];rfl
  have e1:at_ s 1=(u8of (128+r % 64)).toNat:=by rw [<- hs];rfl
  have hl:1<s.length:=by rw [<- hs];simp
  unfold rlen code;simp only [J3,Ebk];rw [if_neg omg,if_pos omg,if_neg omg,if_pos omg];exact ⟨rfl,by omega⟩
 by_cases c3:r<65536
 ·have e:=Nd (r:=r) omg;have a0:=B8 (c:=224+r / 4096) omg omg;have a1:=B8 (c:=128+r / 64 % 64) omg omg;have a2:=B8 (c:=128+r % 64) omg omg;simp only [utf,e,Eat,Eb5,List.cons_append,List.nil_append,List.length_cons,List.length_nil];generalize hs:u8of (224+r / 4096) :: u8of (128+r / 64 % 64) :: u8of (128+r % 64) :: t=s;have e0:at_ s 0=(u8of (224+r / 4096)).toNat:=by rw [<- hs];rfl
  have e1:at_ s 1=(u8of (128+r / 64 % 64)).toNat:=by rw [<- hs];rfl
  have e2:at_ s 2=(u8of (128+r % 64)).toNat:=by rw [<- hs];rfl
  have hl:2<s.length:=by rw [<- hs];simp
  unfold rlen code;simp only [J3,Ebk];rw [if_neg omg,if_neg omg,if_pos omg,if_neg omg,if_neg omg,if_neg omg,if_pos omg];exact ⟨rfl,by omega⟩
 ·have e:=Nk (r:=r) omg;have a0:=B8 (c:=240+r / 262144) omg omg;have a1:=B8 (c:=128+r / 4096 % 64) omg omg;have a2:=B8 (c:=128+r / 64 % 64) omg omg;have a3:=B8 (c:=128+r % 64) omg omg;simp only [utf,e,Eat,Eb5,List.cons_append,List.nil_append,List.length_cons,List.length_nil];generalize hs:u8of (240+r / 262144) :: u8of (128+r / 4096 % 64) :: u8of (128+r / 64 % 64) :: u8of (128+r % 64) :: t=s;have e0:at_ s 0=(u8of (240+r / 262144)).toNat:=by rw [<- hs];rfl
  have e1:at_ s 1=(u8of (128+r / 4096 % 64)).toNat:=by rw [<- hs];rfl
  have e2:at_ s 2=(u8of (128+r / 64 % 64)).toNat:=by rw [<- hs];rfl
  have e3:at_ s 3=(u8of (128+r % 64)).toNat:=by rw [<- hs];rfl
  have hl:3<s.length:=by rw [<- hs];simp
  unfold rlen code;simp only [J3,Ebk];rw [if_neg omg,if_neg omg,if_neg omg,if_pos omg,if_neg omg,if_neg omg,if_neg omg,if_neg omg];exact ⟨rfl,by omega⟩
end Go.LX
namespace Go.LX
open Go Go.RowKit Go.Proofs
attribute [local irreducible] Al SWP Bi
theorem S6 (fn s:List UInt8) (b c:Int) (hs:s.length<=1000000):Det cx 219 [.p (.str fn),.p (.str s),.p (.int .i64 b),.p (.int .i64 c),.p (.ifi 236 .i64 2)] [] (.p .ifc) []:=by
 refine Jw9 (enters_of Tryz.func219 kr rfl) fun β Im w vs hg hf=>?_
 have hl:vs.length=5:=by simpa using hf.size
 match vs,hl with
 | [v1,v2,v3,v4,v5],_ =>
  have e1:=Ks (hf.tmps 0 _ rfl);have e2:=Ks (hf.tmps 1 _ rfl);have e3:=Mz (hf.tmps 2 _ rfl);have e4:=Mz (hf.tmps 3 _ rfl);have e5:=Jn2 (hf.tmps 4 _ rfl);simp [Array.getD] at e1 e2 e3 e4 e5;subst e1 e2 e3 e4 e5;obtain ⟨te,pe,he⟩:=(Jbj hg).syn;exact (Tryz.strconv_toError_syntax ⟨⟨fn⟩⟩ ⟨⟨s⟩⟩ b c _ w (Nat.le_trans hs de) he (.inr ⟨te,pe,rfl⟩)).mono fun e w' ⟨N,he,_,_,hb⟩=>⟨⟨_,he,fun _ _ _=>.ifc _ _⟩,hb⟩
def Vk (o:Option Nat):L:=match o with
 | some n=>.tup [.int .u64 n,.nifc]
 | none=>.tup [.int .u64 0,.ifc]
theorem Zn (s:List UInt8) (hs:s.length=4):Det cx 264 [.p (.str s),.p (.int .i64 16),.p (.int .i64 16)] [] (Vk (hexN s 0)) []:=by
 cases h:hexN s 0 with
 | some n =>
  have hc:=Kf s hs;rw [h] at hc;simp only [Jbb] at hc;(refine bgo Tryz.func264 ?_;simp only [go_sem,simprocAttr]);(repeat' (first|((refine Jqa hc ?_);simp only [go_sem,simprocAttr])|fail));rfl
 | none =>
  have hc:=Kf s hs;rw [h] at hc;simp only [Jbb] at hc;(refine bgo Tryz.func264 ?_;simp only [go_sem,simprocAttr]);(repeat' (first|((first|refine Jqa hc ?_|(refine Jqa (S6 _ s _ _ omg) ?_));simp only [go_sem,simprocAttr])|fail));rfl
theorem Fu (s:List UInt8) (c:Int):Det cx 190 [.p (.str s),.p (.int .u8 c)] [] (.p (.int .i64 (Lib.indexByte s c.toNat.toUInt8))) []:=by
 refine Jr1 (v:=.int .i64 (Lib.indexByte s c.toNat.toUInt8)) (enters_of Tryz.func190 kr rfl) rfl (fun _ _ _=>.int _ _) fun β Im w vs hg hf=>?_
 obtain ⟨v,u,rfl,hv,hu⟩:=fit2 hf;have:=Ks hv;subst this;have:=Mz hu;subst this;exact (Tryz.strings_IndexByte ⟨⟨s⟩⟩ c w).mono fun e w' ⟨he,hw⟩=>⟨he,hw ▸ Below.refl _ _⟩
def K3 (s:List UInt8):Nat×Nat:=if s.length=0 then (65533,0) else dec s 0
theorem C4 (s:List UInt8):Det cx 199 [.p (.str s)] [] (.tup [.int .i32 (K3 s).1,.int .i64 (K3 s).2]) []:=by
 refine Jr1 (v:=.tuple #[.int .i32 (K3 s).1,.int .i64 (K3 s).2]) (enters_of Tryz.func199 kr rfl) rfl (fun β w Im=>⟨[.int .i32 (K3 s).1,.int .i64 (K3 s).2],rfl,rfl,fun i x p hi hp=>?_⟩) fun β Im w vs hg hf=>?_
 ·rcases i with _ | _ | i <;> simp at hi hp
  ·subst hi hp;exact .int _ _
  ·subst hi hp;exact .int _ _
 ·obtain ⟨v,rfl,hv⟩:=fit1 hf;have:=Ks hv;subst this;exact (Tryz.utf8_DecodeRuneInString ⟨⟨s⟩⟩ w (Jbj hg).tabs).mono fun e w' ⟨he,hb⟩=>⟨he,hb⟩
theorem Jh (s p:List UInt8) (hs:s.length<=1000000) (hp:p.length<=1000000):Det cx 189 [.p (.str s),.p (.str p)] [] (.p (.bool (s.take p.length == p))) []:=by
 (refine bgo Tryz.func189 ?_;simp only [go_sem,simprocAttr]);(repeat' (apply iteI <;> intro h))
 ·exact h
 ·symm;rw [beq_eq_false_iff_ne];intro e;have:=congrArg List.length e;simp at this;omega
theorem Bj (s p:List UInt8) (hs:s.length<=1000000) (hp:p.length<=1000000):Det cx 148 [.p (.str s),.p (.str p)] [] (.p (.bool (s.take p.length == p))) []:=by
 (refine bgo Tryz.func148 ?_;simp only [go_sem,simprocAttr]);(repeat' (first|((refine Jqa (Jh s p hs hp) ?_);simp only [go_sem,simprocAttr])|fail))
theorem R8 (r:Int):(Utf8.encode r).data.toList=utf r:=by
 have ho:∀ n:Nat,u8of (n:Int)=UInt8.ofNat n:=fun n=>by
  unfold u8of;apply UInt8.toNat_inj.1;simp;omega
 unfold Utf8.encode;simp only [Utf8.valid,Eb4,Ebb,decide_eq_true_eq,Utf8.runeError];by_cases hv:(0<=r/\r<55296)\/(57344<=r/\r<=1114111)
 ·obtain ⟨n,rfl⟩:=Eci (a:=r) omg;rw [if_pos hv];simp only [Int.toNat_natCast];by_cases c1:n<128
  ·rw [if_pos c1,utf,Nb omg];simp [ho]
  by_cases c2:n<2048
  ·rw [if_neg c1,if_pos c2,utf,Oc omg];simp only [Eat,Eb5];rw [show (192:Int)+(n:Int) / 64=((192+n / 64:Nat):Int) by omega,show (128:Int)+(n:Int) % 64=((128+n % 64:Nat):Int) by omega,ho,ho]
  by_cases c3:n<65536
  ·rw [if_neg c1,if_neg c2,if_pos c3,utf,Nd omg];simp only [Eat,Eb5];rw [show (224:Int)+(n:Int) / 4096=((224+n / 4096:Nat):Int) by omega,show (128:Int)+(n:Int) / 64 % 64=((128+n / 64 % 64:Nat):Int) by omega,show (128:Int)+(n:Int) % 64=((128+n % 64:Nat):Int) by omega,ho,ho,ho]
  ·rw [if_neg c1,if_neg c2,if_neg c3,utf,Nk omg];simp only [Eat,Eb5];rw [show (240:Int)+(n:Int) / 262144=((240+n / 262144:Nat):Int) by omega,show (128:Int)+(n:Int) / 4096 % 64=((128+n / 4096 % 64:Nat):Int) by omega,show (128:Int)+(n:Int) / 64 % 64=((128+n / 64 % 64:Nat):Int) by omega,show (128:Int)+(n:Int) % 64=((128+n % 64:Nat):Int) by omega,ho,ho,ho,ho]
 ·rw [if_neg hv,utf,Wq omg];rfl
def Eg:List UInt8:=[43,45,95]
theorem Jhu (k:Nat):at_ Eg k<=95:=by
 match k with
 | 0=>decide
 | 1=>decide
 | 2=>decide
 | k+3=>rw [at_out (by simp [Eg])];decide
theorem Jko {r:Int} (h:128<=r):2<=(utf r).length/\128<=at_ (utf r) ((utf r).length - 1):=by
 have key:∀ l:List Int,utfC r=l->(∀ c∈l,128<=c/\c<256)->l≠[]->128<=at_ (utf r) ((utf r).length - 1):=by
  intro l e hl hne;rw [utf,e];have hlen:(l.map u8of).length - 1<l.length:=by
   have:=Ecb.2 hne;simp;omega
  rw [Ql (by simpa using hlen)];simp only [List.getElem_map];have:=hl _ (Ebq hlen);have:=B8 (c:=l[(l.map u8of).length - 1]) omg omg;omega
 unfold utf at *
 by_cases c2:r<2048
 ·have e:=Oc (r:=r) omg;refine ⟨by rw [e];simp,key _ e ?_ sm⟩;simp;omega
 by_cases c3:(2048<=r/\r<55296)\/(57343<r/\r<65536)
 ·have e:=Nd (r:=r) omg;refine ⟨by rw [e];simp,key _ e ?_ sm⟩;simp;omega
 by_cases c4:65536<=r/\r<=1114111
 ·have e:=Nk (r:=r) omg;refine ⟨by rw [e];simp,key _ e ?_ sm⟩;simp;omega
 ·have e:=Wq (r:=r) omg;refine ⟨by rw [e];simp,key _ e ?_ sm⟩;simp
theorem indexByte_none {l:List UInt8} {c:Int} (h0:128<=c) (h1:c<256) (h:∀ x∈l,x.toNat<128):Lib.indexByte l c.toNat.toUInt8 = -1:=by
 have hc:l.contains c.toNat.toUInt8=false:=by
  rw [List.contains_eq_mem,decide_eq_false_iff_not];intro hm;have:=h _ hm;simp at this;omega
 have e:=Lib.contains_iff_indexByte l c.toNat.toUInt8;rw [hc] at e;have hlt:¬ 0<=Lib.indexByte l c.toNat.toUInt8:=by simpa using e.symm
 have:=Lib.indexByte_ge l c.toNat.toUInt8;omega
def irv (r:Int):Int:=if r<128 then Lib.indexByte Eg r.toNat.toUInt8 else -1
theorem Ha (r:Int) (h:Cy r):Det cx 258 [.p (.int .i32 r)] [] (.p (.bool true)) []:=by
 unfold Cy at h;(refine bgo Tryz.func258 ?_;simp only [go_sem,simprocAttr]);(repeat' (first|(apply iteI<;>intro h)|(exact True.intro)|(exfalso;omega)))
theorem Ey:Eg.length=3:=rfl
theorem pd0:Utf8.decode ⟨⟨Eg⟩⟩ 0=(43,1):=by decide
theorem pd1:Utf8.decode ⟨⟨Eg⟩⟩ 1=(45,1):=by decide
theorem pd2:Utf8.decode ⟨⟨Eg⟩⟩ 2=(95,1):=by decide
theorem Ps (r:Int) (hr:Cy r) (h1:128<=r) (h2:r≠65533):Det cx 235 [.p (.str Eg),.p (.int .i32 r)] [] (.p (.int .i64 (-1))) []:=by
 have h':=hr;unfold Cy at h';obtain ⟨g1,g2⟩:=Jko (r:=r) h1;have g3:=Fr (utf r) ((utf r).length - 1);have g4:=Od r;have g5:=Jhu ((utf r).length - 1);obtain ⟨k,hk⟩:∃ k,(utf r).length=k+1:=⟨(utf r).length - 1,by omega⟩
 rw [hk,Nat.add_sub_cancel] at g2 g3 g5;have hw:IntKind.i64.wrap (((k+1:Nat):Int) - 1)=(k:Int):=by rw [Aa omg omg];omega
 have hw2:IntKind.i64.wrap ((k:Int)+1)=((k+1:Nat):Int):=by rw [Aa omg omg];omega
 have hib:Lib.indexByte (Eg.drop (k+1)) (at_ (utf r) k:Int).toNat.toUInt8 = -1:=indexByte_none omg omg fun x hx=>by
  exact (by decide:∀ x∈Eg,x.toNat<128) x (Ea7 hx)
 (refine bgo Tryz.func235 ?_;simp only [go_sem,simprocAttr]);(repeat' (first|(apply iteI<;>intro h)|((refine Jqa (Ha r hr) ?_);simp only [go_sem,simprocAttr,R8,hk,hw])|(exfalso;omega)));(refine SWP.rounds 2 ?_;refine Jss hm ?_;simp only [go_sem,simprocAttr,Ey]);(repeat' (first|(apply iteI<;>intro h)|refine Jqj ?_|((first|refine Jqm ?_|(refine Jqb (Fu _ _) ?_));simp only [go_sem,simprocAttr,Ey,hk,hw2])|(exact True.intro)|(exfalso;omega)))
 ·simp only [Int.toNat_natCast] at hib;omega
theorem Oy (r:Int) (hr:Cy r):Det cx 235 [.p (.str Eg),.p (.int .i32 r)] [] (.p (.int .i64 (irv r))) []:=by
 have h':=hr;unfold Cy at h';by_cases hb:128<=r/\r≠65533
 ·rw [show irv r = -1 by simp only [irv,if_neg (show ¬ r<128 by omega)]];exact Ps r hr hb.1 hb.2
 (refine bgo Tryz.func235 ?_;simp only [go_sem,simprocAttr]);(repeat' (first|(apply iteI<;>intro h)|((first|(refine Jqa (Ha r hr) ?_)|(refine Jqa (Fu _ _) ?_));simp only [go_sem,simprocAttr])|(exfalso;omega)))
 ·rw [Ab omg omg];simp only [irv,if_pos (show r<128 by omega)]
 ·(refine SWP.rounds 4 ?_;refine Jss hm ?_;simp only [go_sem,simprocAttr,pd0,Ey]);(repeat' (first|(refine Jss hm ?_;simp only [go_sem,simprocAttr,pd1,pd2,Ey])|fail));simp only [irv,if_neg (show ¬ r<128 by omega)]
 all_goals (exfalso;omega)
def iaF (s:List UInt8):Nat->Nat->Int
 | 0,_=>-1
 | f+1,i=>if i<s.length then (if 0<=irv (dec s i).1 then (i:Int) else iaF s f (i+(dec s i).2)) else -1
theorem Jcz (n:Int) (hn:n<=8):Det cx 277 [.p (.int .i64 n)] [] (.p (.bool false)) []:=by
 (refine bgo Tryz.func277 ?_;simp only [go_sem,simprocAttr]);exact hn
theorem Sf (s:List UInt8) (i:Nat):Cy (dec s i).1:=by
 rw [F1];split
 ·right;decide
 ·rename_i h;exact Fm h
theorem Jm6 (s:List UInt8) (i:Nat):1<=(dec s i).2:=by
 rw [F1];split
 ·decide
 ·simp only;omega
theorem H6 (s:List UInt8) (i:Nat):Utf8.decode ⟨⟨s⟩⟩ i=dec s i:=rfl
theorem Ro (s:List UInt8) (hs:s.length=4):Det cx 272 [.p (.str s),.p (.str Eg)] [] (.p (.int .i64 (iaF s 5 0))) []:=by
 (refine bgo Tryz.func272 ?_;simp only [go_sem,simprocAttr,Ey]);(repeat' (first|((refine Jqa (Jcz _ omg) ?_);simp only [go_sem,simprocAttr])|fail));refine SWP.loop (fun x:Nat×Nat=>⟨Ba 55 [(0,.p (.str s)),(1,.p (.str Eg)),(45,.ptr 45 0 0)],[(45,.obj (.sit s x.1))]⟩) (fun x=>5<=x.1+x.2/\iaF s x.2 x.1=iaF s 5 0) (fun x=>4 - x.1) (0,5) Jqc ⟨by omega,rfl⟩ ?_;rintro ⟨i,f⟩ ⟨h1,h2⟩;simp only at h1 h2;have hp:=Jm6 s i;(refine lws ?_;simp only [go_sem,simprocAttr,H6]);(repeat' (first|(apply iteI<;>intro h)|((refine Jqa (Oy _ (Sf s i)) ?_);simp only [go_sem,simprocAttr])|fail))
 ·obtain ⟨g,rfl⟩:∃ g,f=g+1:=⟨f - 1,by omega⟩
  rw [<- h2,iaF,if_pos omg,if_pos (by assumption)]
 ·obtain ⟨g,rfl⟩:∃ g,f=g+1:=⟨f - 1,by omega⟩
  refine ⟨(i+(dec s i).2,g),⟨by simp only;omega,?_⟩,by simp only;omega,Jqc⟩;simp only;rw [<- h2,show iaF s (g+1) i=iaF s g (i+(dec s i).2) from by rw [iaF,if_pos omg,if_neg (by assumption)]]
 ·rw [<- h2];cases f with
  | zero=>rfl
  | succ g=>rw [iaF,if_neg omg]
theorem Sq (s:List UInt8) (hs:s.length=4):Det cx 263 [.p (.str s),.p (.str Eg)] [] (.p (.bool (decide (0<=iaF s 5 0)))) []:=by
 (refine bgo Tryz.func263 ?_;simp only [go_sem,simprocAttr]);(repeat' (first|((refine Jqa (Ro s hs) ?_);simp only [go_sem,simprocAttr])|fail))
theorem Jih {r:Int} (h0:0<=r) (h:0<=irv r):r=43\/r=45\/r=95:=by
 unfold irv at h;split at h
 ·have e:=Lib.contains_iff_indexByte Eg r.toNat.toUInt8;rw [decide_eq_true h,List.contains_eq_mem,decide_eq_true_eq] at e;simp only [Eg,Eaj,Ebc,or_false] at e;rcases e with e | e | e
  ·have:=congrArg UInt8.toNat e;simp at this;omega
  ·have:=congrArg UInt8.toNat e;simp at this;omega
  ·have:=congrArg UInt8.toNat e;simp at this;omega
 ·omega
theorem Jhs {s:List UInt8} {i:Nat} (h:(dec s i).1<128):at_ s i=(dec s i).1:=by
 have h0:=Fr s i;rw [F1] at h ⊢;split at h
 ·simp at h
 ·rename_i hr;rw [if_neg hr];simp only at h ⊢;rcases Fd s i with e | ⟨e,g1⟩ | ⟨e,g1,g2,g3⟩ | ⟨e,g1,g2,g3,g4,g5,g6⟩ | ⟨e,g1,g2,g3,g4,g5,g6,g7⟩
  ·exact absurd e hr
  ·unfold code;rw [if_pos g1]
  ·have ec:code s i=at_ s i % 32 * 64+at_ s (i+1) % 64:=by unfold code;rw [if_neg omg,if_pos omg]
   omega
  ·have ec:code s i=at_ s i % 16 * 4096+at_ s (i+1) % 64 * 64+at_ s (i+2) % 64:=by unfold code;rw [if_neg omg,if_neg omg,if_pos omg]
   omega
  ·have ec:code s i=at_ s i % 8 * 262144+at_ s (i+1) % 64 * 4096+at_ s (i+2) % 64 * 64+at_ s (i+3) % 64:=by unfold code;rw [if_neg omg,if_neg omg,if_neg omg]
   omega
theorem Y5 (s:List UInt8):∀ (f i:Nat),0<=iaF s f i->∃ k,k<s.length/\hexv (at_ s k)=none
 | 0,i,h=>by simp [iaF] at h
 | f+1,i,h=>by
  simp only [iaF] at h;split at h
  ·rename_i hi;split at h
   ·rename_i hm;have h1:=Jih omg hm;have h2:=Jhs (s:=s) (i:=i) omg;refine ⟨i,hi,?_⟩;unfold hexv;rw [if_neg omg,if_neg omg,if_neg omg]
   ·exact Y5 s f _ h
  ·omega
theorem S4:∀ (s:List UInt8) (a k:Nat),k<s.length->hexv (at_ s k)=none->hexN s a=none
 | [],a,k,h,_=>by simp at h
 | c :: s,a,0,h,hn=>by
  simp only [hexN];rw [show hexv c.toNat=none from hn]
 | c :: s,a,k+1,h,hn=>by
  simp only [hexN];split
  ·exact S4 s _ k (by simpa using h) hn
  ·rfl
theorem We:∀ (s:List UInt8) (a n:Nat),hexN s a=some n->n<(a+1) * 16 ^ s.length
 | [],a,n,h=>by simp [hexN] at h;subst h;simp
 | c :: s,a,n,h=>by
  simp only [hexN] at h;split at h
  ·rename_i d hd;have hd':d<16:=by
    unfold hexv at hd;split at hd
    ·cases hd;omega
    split at hd
    ·cases hd;omega
    split at hd
    ·cases hd;omega
    ·cases hd
   have:=We s _ n h;refine Ebd this ?_;simp only [List.length_cons,Nat.pow_succ];rw [Nat.mul_comm (16 ^ s.length) 16,<- Eda];exact Ebf _ omg
  ·cases h
end Go.LX
namespace Go.LX
open Go
def H9 (K:PV->Prop):Prop:=∀ a b,K a->K b->∃ t,Lc a b=some t/\(t=true ↔ a=b)
def Z5 (q:IntKind) (k:PV):Prop:=∃ n,k=.int q n
def isStrKey (k:PV):Prop:=∃ s,k=.str s
theorem P1 (q:IntKind):H9 (Z5 q):=by
 rintro a b ⟨x,rfl⟩ ⟨y,rfl⟩;exact ⟨x == y,by simp [Lc],by simp⟩
theorem J5w:H9 isStrKey:=by
 rintro a b ⟨x,rfl⟩ ⟨y,rfl⟩;exact ⟨x == y,by simp [Lc],by simp⟩
structure MapF (K:PV->Prop) (es:List (PV×PV)):Prop where
 keys:∀ p∈es,K p.1
 nodup:(es.map (·.1)).Nodup
theorem MapF.nil {K:PV->Prop}:MapF K []:=⟨fun p h=>by simp at h,by simp⟩
variable {K:PV->Prop} {es:List (PV×PV)}
theorem MapF.tail {p:PV×PV} (h:MapF K (p :: es)):MapF K es:=⟨fun q hq=>h.keys q (Eag _ hq),(Eb0.1 h.nodup).2⟩
theorem MapF.one (h:MapF K es) {k v w:PV} (h1:(k,v)∈es) (h2:(k,w)∈es):v=w:=by
 induction es with
 | nil=>simp at h1
 | cons p es ih =>
  have hn:=Eb0.1 h.nodup;have key:∀ {u:PV},(k,u)∈es->p.1≠k:=fun {u} hu e=>hn.1 (by show p.1∈_;rw [e];exact List.mem_map_of_mem (f:=(·.1)) hu)
  rcases Eaj.1 h1 with h1 | h1
  ·rcases Eaj.1 h2 with h2 | h2
   ·rw [<- h1] at h2;exact (Ecw h2).2.symm
   ·exact absurd (by rw [<- h1]) (key h2)
  ·rcases Eaj.1 h2 with h2 | h2
   ·exact absurd (by rw [<- h2]) (key h1)
   ·exact ih h.tail h1 h2
theorem Gk (hK:H9 K) {k:PV} (hk:K k):∀ (es:List (PV×PV)) (i:Nat),MapF K es ->
  (Cl k es i=some none/\∀ v,(k,v) ∉ es)\/∃ j v,Cl k es i=some (some (i+j,v))/\es[j]? = some (k,v)
 | [],i,_=>.inl ⟨rfl,fun v h=>by simp at h⟩
 | (x,u) :: es,i,h=>by
  obtain ⟨t,h1,h2⟩:=hK k x hk (h.keys (x,u) Eaf);cases t with
  | true =>
   have e:k=x:=h2.1 rfl;subst e;exact .inr ⟨0,u,by simp [Cl,h1],rfl⟩
  | false =>
   have hne:k≠x:=fun e=>by have:=h2.2 e;cases this
   rcases Gk hK hk es (i+1) h.tail with ⟨g1,g2⟩ | ⟨j,v,g1,g2⟩
   ·refine .inl ⟨by simp [Cl,h1,g1],fun v hv=>?_⟩;rcases Eaj.1 hv with hv | hv
    ·exact hne (Ecw hv).1
    ·exact g2 v hv
   ·exact .inr ⟨j+1,v,by simp [Cl,h1,g1];omega,by simpa using g2⟩
theorem Jkm (hK:H9 K) {k v:PV} (h:MapF K es) (hv:(k,v)∈es):∃ j,Cl k es 0=some (some (j,v)):=by
 have hk:=h.keys _ hv;rcases Gk hK hk es 0 h with ⟨_,g⟩ | ⟨j,u,g1,g2⟩
 ·exact absurd hv (g v)
 ·have:=h.one hv (Eae g2);subst this;exact ⟨0+j,g1⟩
theorem Jep (hK:H9 K) {k:PV} (hk:K k) (h:MapF K es) (hv:∀ v,(k,v) ∉ es):Cl k es 0=some none:=by
 rcases Gk hK hk es 0 h with ⟨g,_⟩ | ⟨j,u,g1,g2⟩
 ·exact g
 ·exact absurd (Eae g2) (hv u)
theorem Jmm (h:MapF K es) {i j:Nat} {p q:PV×PV} (hi:es[i]? = some p) (hj:es[j]? = some q) (e:p.1=q.1):i=j:=by
 have h1:(es.map (·.1))[i]? = some p.1:=by simp [hi]
 have h2:(es.map (·.1))[j]? = some p.1:=by simp [hj,e]
 have hil:=(Eab.1 h1).1;exact (List.getElem?_inj hil h.nodup).1 (h1.trans h2.symm)
theorem Jhy (hK:H9 K) {k v:PV} (hk:K k) (h:MapF K es) :
  ∃ es',mput k v es=some es'/\MapF K es'/\(∀ k' v',(k',v')∈es' ↔ (k'=k/\v'=v)\/(k'≠k/\(k',v')∈es)):=by
 rcases Gk hK hk es 0 h with ⟨g1,g2⟩ | ⟨j,u,g1,g2⟩
 ·refine ⟨es ++ [(k,v)],by simp [mput,g1],⟨fun p hp=>?_,?_⟩,fun k' v'=>?_⟩
  ·rcases Eau.1 hp with hp | hp
   ·exact h.keys p hp
   ·simp at hp;subst hp;exact hk
  ·rw [Ebu,Ecc];refine ⟨h.nodup,by simp,fun a ha b hb=>?_⟩;simp at hb;subst hb;rintro rfl;obtain ⟨q,hq,rfl⟩:=Eap.1 ha;exact g2 q.2 hq
  ·simp only [Eau,Eay,Ec2];constructor
   ·rintro (hm | hm)
    ·exact .inr ⟨fun e=>g2 v' (e ▸ hm),hm⟩
    ·exact .inl hm
   ·rintro (hm | hm)
    ·exact .inr hm
    ·exact .inl hm.2
 ·have hj:=(Eab.1 g2).1;refine ⟨es.set j (k,v),by simp [mput,g1],⟨fun p hp=>?_,?_⟩,fun k' v'=>?_⟩
  ·rcases Eby hp with hp | rfl
   ·exact h.keys p hp
   ·exact hk
  ·have e:(es.set j (k,v)).map (·.1)=es.map (·.1):=by
    rw [Edj];apply Eb9;intro i;rw [Ebn];split
    ·rename_i hij;subst hij;have:=(Eab.1 g2).2;simp [hj,this]
    ·rfl
   rw [e];exact h.nodup
  ·constructor
   ·intro hm;obtain ⟨i,hi⟩:=Ebt hm;rw [Ebn] at hi;split at hi
    ·first
      | (have e:=Ea3 hi;exact .inl ⟨(Ecw e).1.symm,(Ecw e).2.symm⟩)
      | (
       split at hi
       ·have e:=Ea3 hi;exact .inl ⟨(Ecw e).1.symm,(Ecw e).2.symm⟩
       ·cases hi)
    ·rename_i hij;refine .inr ⟨fun e=>hij ?_,Eae hi⟩;exact Jmm h g2 hi (by simp [e])
   ·rintro (⟨rfl,rfl⟩ | ⟨hne,hm⟩)
    ·exact Eae (i:=j) (by simp [hj])
    ·obtain ⟨i,hi⟩:=Ebt hm;refine Eae (i:=i) ?_;rw [Ebn,if_neg (fun e=>?_)]
     ·exact hi
     ·subst e;rw [g2] at hi;exact hne (Ecw (Ea3 hi)).1.symm
theorem Jer (hK:H9 K) {k:PV} (hk:K k) (h:MapF K es) :
  ∃ es',mdel k es=some es'/\MapF K es'/\(∀ k' v',(k',v')∈es' ↔ k'≠k/\(k',v')∈es):=by
 rcases Gk hK hk es 0 h with ⟨g1,g2⟩ | ⟨j,u,g1,g2⟩
 ·refine ⟨es,by simp [mdel,g1],h,fun k' v'=>⟨fun hm=>⟨fun e=>g2 v' (e ▸ hm),hm⟩,fun hm=>hm.2⟩⟩
 ·have hs:(es.eraseIdx j).Sublist es:=List.eraseIdx_sublist ..
  refine ⟨es.eraseIdx j,by simp [mdel,g1],⟨fun p hp=>h.keys p (hs.subset hp),?_⟩,fun k' v'=>⟨fun hm=>⟨fun e=>?_,hs.subset hm⟩,fun hm=>?_⟩⟩
  ·exact (hs.map _).nodup h.nodup
  ·obtain ⟨i,hij,hi⟩:=List.mem_eraseIdx_iff_getElem?.1 hm;exact hij (Jmm h hi g2 (by simp [e]))
  ·obtain ⟨i,hi⟩:=Ebt hm.2;refine List.mem_eraseIdx_iff_getElem?.2 ⟨i,fun e=>?_,hi⟩;subst e;rw [g2] at hi;exact hm.1 (Ecw (Ea3 hi)).1.symm
def Jo (seen:List Nat):Nat->Nat
 | 0=>0
 | n+1=>Jo seen n+(if n∈seen then 0 else 1)
theorem Ti (seen:List Nat) (i:Nat):∀ n,Jo (seen ++ [i]) n<=Jo seen n
 | 0=>Eai _
 | n+1=>by
  have:=Ti seen i n;simp only [Jo,Eau,Eay];by_cases h1:n∈seen
  ·rw [if_pos (.inl h1),if_pos h1];omega
  ·rw [if_neg h1];split <;> omega
theorem S9 {seen:List Nat} {i:Nat} (hi:i ∉ seen):∀ {n},i<n->Jo (seen ++ [i]) n<Jo seen n
 | 0,h=>by omega
 | n+1,h=>by
  simp only [Jo,Eau,Eay];by_cases h2:n=i
  ·subst h2;have:=Ti seen n n;rw [if_pos (.inr rfl),if_neg hi];omega
  ·have:=S9 hi (n:=n) omg;by_cases h1:n∈seen
   ·rw [if_pos (.inl h1),if_pos h1];omega
   ·rw [if_neg (fun h=>h.elim h1 h2),if_neg h1];omega
end Go.LX
namespace Go.LX
open Go Go.RowKit Go.Proofs
attribute [local irreducible] Al SWP Bi
def Ei:List (PV×PV):=[(.int .u8 34,.int .i32 34),(.int .u8 92,.int .i32 92),(.int .u8 47,.int .i32 47),(.int .u8 98,.int .i32 8),(.int .u8 102,.int .i32 12),(.int .u8 110,.int .i32 10),(.int .u8 114,.int .i32 13),(.int .u8 116,.int .i32 9)]
theorem mp0:mput (.int .u8 34) (.int .i32 34) []=some [(.int .u8 34,.int .i32 34)]:=rfl
theorem mp1:mput (.int .u8 92) (.int .i32 92) [(.int .u8 34,.int .i32 34)]=some [(.int .u8 34,.int .i32 34),(.int .u8 92,.int .i32 92)]:=rfl
theorem mp2:mput (.int .u8 47) (.int .i32 47) [(.int .u8 34,.int .i32 34),(.int .u8 92,.int .i32 92)]=some [(.int .u8 34,.int .i32 34),(.int .u8 92,.int .i32 92),(.int .u8 47,.int .i32 47)]:=rfl
theorem mp3:mput (.int .u8 98) (.int .i32 8) [(.int .u8 34,.int .i32 34),(.int .u8 92,.int .i32 92),(.int .u8 47,.int .i32 47)]=some [(.int .u8 34,.int .i32 34),(.int .u8 92,.int .i32 92),(.int .u8 47,.int .i32 47),(.int .u8 98,.int .i32 8)]:=rfl
theorem mp4:mput (.int .u8 102) (.int .i32 12) [(.int .u8 34,.int .i32 34),(.int .u8 92,.int .i32 92),(.int .u8 47,.int .i32 47),(.int .u8 98,.int .i32 8)]=some [(.int .u8 34,.int .i32 34),(.int .u8 92,.int .i32 92),(.int .u8 47,.int .i32 47),(.int .u8 98,.int .i32 8),(.int .u8 102,.int .i32 12)]:=rfl
theorem mp5:mput (.int .u8 110) (.int .i32 10) [(.int .u8 34,.int .i32 34),(.int .u8 92,.int .i32 92),(.int .u8 47,.int .i32 47),(.int .u8 98,.int .i32 8),(.int .u8 102,.int .i32 12)]=some [(.int .u8 34,.int .i32 34),(.int .u8 92,.int .i32 92),(.int .u8 47,.int .i32 47),(.int .u8 98,.int .i32 8),(.int .u8 102,.int .i32 12),(.int .u8 110,.int .i32 10)]:=rfl
theorem mp6:mput (.int .u8 114) (.int .i32 13) [(.int .u8 34,.int .i32 34),(.int .u8 92,.int .i32 92),(.int .u8 47,.int .i32 47),(.int .u8 98,.int .i32 8),(.int .u8 102,.int .i32 12),(.int .u8 110,.int .i32 10)]=some [(.int .u8 34,.int .i32 34),(.int .u8 92,.int .i32 92),(.int .u8 47,.int .i32 47),(.int .u8 98,.int .i32 8),(.int .u8 102,.int .i32 12),(.int .u8 110,.int .i32 10),(.int .u8 114,.int .i32 13)]:=rfl
theorem mp7:mput (.int .u8 116) (.int .i32 9) [(.int .u8 34,.int .i32 34),(.int .u8 92,.int .i32 92),(.int .u8 47,.int .i32 47),(.int .u8 98,.int .i32 8),(.int .u8 102,.int .i32 12),(.int .u8 110,.int .i32 10),(.int .u8 114,.int .i32 13)]=some [(.int .u8 34,.int .i32 34),(.int .u8 92,.int .i32 92),(.int .u8 47,.int .i32 47),(.int .u8 98,.int .i32 8),(.int .u8 102,.int .i32 12),(.int .u8 110,.int .i32 10),(.int .u8 114,.int .i32 13),(.int .u8 116,.int .i32 9)]:=rfl
theorem Kl:Det cx 242 [] [] (.p (.mp Ei)) []:=by
 (refine bgo Tryz.func242 ?_;simp only [go_sem,simprocAttr,mp0,mp1,mp2,mp3,mp4,mp5,mp6,mp7]);rfl
theorem wi1 {i:Nat} (h:i<=3000000000000000):IntKind.i64.wrap ((i:Int)+1)=((i+1:Nat):Int):=by rw [Aa omg omg];omega
theorem wi2 {i:Nat} (h:i<=3000000000000000):IntKind.i64.wrap ((i:Int)+2)=((i+2:Nat):Int):=by rw [Aa omg omg];omega
theorem wi3 {i:Nat} (h:i<=3000000000000000):IntKind.i64.wrap ((i:Int)+3)=((i+3:Nat):Int):=by rw [Aa omg omg];omega
theorem wi6 {i:Nat} (h:i<=3000000000000000):IntKind.i64.wrap ((i:Int)+6)=((i+6:Nat):Int):=by rw [Aa omg omg];omega
theorem wia {i j:Nat} (h:i<=3000000000000000) (h2:j<=3000000000000000):IntKind.i64.wrap ((i:Int)+(j:Int))=((i+j:Nat):Int):=by rw [Aa omg omg];omega
theorem Jl7 (s:List UInt8) (i:Nat) (hs:s.length<=1000000) (hi:i<=2000000):Det cx 151 [.p (.str s),.p (.int .i64 i)] [] (.p (.bool (ct s i))) []:=by
 (refine bgo Tryz.func151 ?_;simp only [go_sem,simprocAttr]);(repeat' (first|(apply iteI<;>intro h)|refine Jqj ?_|fail))
 all_goals (rw [Ea0];simp [ct];omega)
theorem ct_lt {s:List UInt8} {k:Nat} (h:ct s k=true):k<s.length:=(J3.1 h).1
theorem Jkd (s:List UInt8) (i:Nat) (hs:s.length<=1000000) (hi:i<s.length):Det cx 113 [.p (.str s),.p (.int .i64 i)] [] (.p (.int .i64 (rlen s i))) []:=by
 have w1:=wi1 (i:=i) omg;have w2:=wi2 (i:=i) omg;have w3:=wi3 (i:=i) omg;have hA:=Fr s i;have hB:=Fr s (i+1);(refine bgo Tryz.func113 ?_;simp only [go_sem,simprocAttr,w1]);(repeat' (first|(apply iteI<;>intro h)|refine Jqj ?_|((refine Jqa (Jl7 s _ hs omg) ?_);simp only [go_sem,simprocAttr,w1,w2,w3])|(refine And.intro (ct_lt (by assumption)) ?_)|(exfalso;omega)))
 all_goals (clear w1 w2 w3;unfold rlen;simp only [J3] at *;(repeat' split) <;> omega)
def vF (s:List UInt8):Nat->Nat->Bool
 | 0,_=>true
 | f+1,i=>if i<s.length then (if rlen s i=0 then false else vF s f (i+rlen s i)) else true
def valid (s:List UInt8):Bool:=vF s (s.length+1) 0
theorem Cn (s:List UInt8) (hs:s.length<=1000000):Det cx 57 [.p (.str s)] [] (.p (.bool (valid s))) []:=by
 (refine bgo Tryz.func57 ?_;simp only [go_sem,simprocAttr]);refine SWP.loop (fun x:Nat×Nat=>⟨Ba 17 [(0,.p (.str s)),(3,.p (.int .i64 x.1))],[]⟩) (fun x=>x.1<=s.length/\s.length+1<=x.1+x.2/\vF s x.2 x.1=valid s) (fun x=>s.length - x.1) (0,s.length+1) Jqc ⟨by simp,by simp,rfl⟩ ?_;rintro ⟨i,f⟩ ⟨h1,h2,h3⟩;simp only at h1 h2 h3;obtain ⟨g,rfl⟩:∃ g,f=g+1:=⟨f - 1,by omega⟩
 have h4:=Qv s i;have hw:=wia (i:=i) (j:=rlen s i) omg omg;(refine lws ?_;simp only [go_sem,simprocAttr]);(repeat' (first|(apply iteI<;>intro h)|((refine Jqa (Jkd s i hs omg) ?_);simp only [go_sem,simprocAttr,hw])|fail))
 ·rw [<- h3,vF,if_pos omg,if_pos omg]
 ·have:=M4 s i omg;exact ⟨(i+rlen s i,g),⟨by simp only;omega,by simp only;omega,by simp only;rw [<- h3,vF,if_pos omg,if_neg omg]⟩,by simp only;omega,Jqc⟩
 ·rw [<- h3,vF,if_neg omg]
theorem d_hex (n:Nat) (h:n<16):Det cx 152 [.p (.int .i64 n)] [] (.p (.str [hexd n])) []:=by
 (refine bgo Tryz.func152 ?_;simp only [go_sem,simprocAttr,wi1 (i:=n) omg]);(repeat' (first|refine Jqj ?_|fail));have key:∀ m:Fin 16,List.take (m.val+1 - m.val) (List.drop m.val [48,49,50,51,52,53,54,55,56,57,97,98,99,100,101,102])=[hexd m.val]:=by decide
 exact key ⟨n,h⟩
def wr (c:Nat):List UInt8 :=
 if c=34 then [92,34] else if c=92 then [92,92] else if c=8 then [92,98] else if c=12 then [92,102] else if c=10 then [92,110] else if c=13 then [92,114] else if c=9 then [92,116]
 else if c<32 then [92,117,48,48,hexd (c / 16),hexd (c % 16)] else [UInt8.ofNat c]
theorem td16 {c:Nat} (h:c<=3000000000000000):IntKind.i64.wrap ((c:Int).tdiv 16)=((c / 16:Nat):Int):=by
 rw [Ecy omg,Aa omg omg];omega
theorem tm16 {c:Nat}:(c:Int).tmod 16=((c % 16:Nat):Int):=by
 rw [Ecz omg];omega
theorem wi0 {c:Nat} (h:c<=3000000000000000):IntKind.i64.wrap (c:Int)=(c:Int):=Aa omg omg
theorem J43 {c:Nat} (h:c<=255) {bs:List UInt8}:Rr (c:Int) (some bs)=some (UInt8.ofNat c :: bs):=by
 simp only [Rr];rw [if_pos omg];rfl
theorem Kcp (c:Nat) (hc:c<=255):Det cx 114 [.p (.int .u8 c)] [] (.p (.str (wr c))) []:=by
 (refine bgo Tryz.func114 ?_;simp only [go_sem,simprocAttr,td16 (c:=c) omg,wi0 (c:=c) omg,J43 hc]);(repeat' (first|(apply iteI<;>intro h)|((first|(refine Jqa (d_hex (c / 16) omg) ?_)|(refine Jqa (d_hex (c % 16) omg) ?_));simp only [go_sem,simprocAttr,td16 (c:=c) omg,tm16,wi0 (c:=c) omg,J43 hc])|fail))
 all_goals (unfold wr;(repeat' split) <;> first | rfl | (exfalso;omega))
end Go.LX
