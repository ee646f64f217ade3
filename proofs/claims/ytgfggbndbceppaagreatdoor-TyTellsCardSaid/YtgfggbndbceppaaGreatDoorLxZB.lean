/- Types, the laws: lists; a live question. -/
import Derived.Test.YtgfggbndbceppaaGreatDoorLxZA
import Derived.Test.YtgfggbndbceppaaGreatDoorLxS
set_option linter.unusedSimpArgs false
set_option linter.unusedVariables false
set_option linter.unusedSectionVars false
set_option linter.unnecessarySimpa false
set_option maxRecDepth 100000
set_option maxHeartbeats 2000000
namespace Go.LX
open Go Go.RowKit Go.Proofs
attribute [local irreducible] Al SWP Bi
attribute [go_sem] Tryz.ntmps31 Tryz.results31 Tryz.ntmps38 Tryz.results38
def Jyn (n:Int) (c:Node):RT:=.mk 9 [] n c .nil
def zNum:Node:=⟨3,0,[],[],false,0⟩
def scalT1:RT:=.mk 1 [] 8 zeroN (.cons [] (Jyn 5 zNum) .nil)
def objT1:RT:=.mk 2 [] 1 zeroN (.cons [97] scalT1 .nil)
def noneT:RT:=.mk 1 [] 1 zeroN (.cons [] (Jyn 1 zeroN) .nil)
theorem J91 {g:Int} {n:Int} {c:Node} (h1:1≤g) (h2:g≤31) (h:Jrf n c):okR (.mk 1 [] g zeroN (.cons [] (Jyn n c) .nil)):=by
 rw [Jr5];refine ⟨?_,⟨?_,fun h=>by omega⟩,fun h=>by omega,?_⟩
 ·unfold Jqv;rw [if_neg de,if_pos de];exact ⟨by simp [RF.len],h1,h2,rfl,rfl⟩
 ·intro p hp;simp only [RF.list,List.mem_cons,List.not_mem_nil,or_false] at hp;subst hp;exact ⟨by simp [RT.kind,Jyn],fun _=>rfl,fun h=>by omega⟩
 ·rw [Jrv];unfold Jyn;rw [Jr5];refine ⟨⟨?_,Jv6 9,fun h=>by omega,Jsj⟩,Jsj⟩;unfold Jqv;rw [if_neg de,if_neg de,if_pos de];exact ⟨rfl,rfl,h⟩
theorem Kau:okR scalT1:=J91 omg omg (by decide +kernel)
theorem J58:okR noneT:=J91 omg omg (by decide +kernel)
theorem J1e:okR objT1:=by
 unfold objT1;rw [Jr5];refine ⟨?_,⟨?_,fun _=>by simp [J5k,RF.list]⟩,fun h=>by omega,?_⟩
 ·unfold Jqv;rw [if_neg de,if_neg de,if_neg de,if_pos de];exact ⟨by simp [RF.len],.inr rfl,rfl,rfl⟩
 ·intro p hp;simp only [RF.list,List.mem_cons,List.not_mem_nil,or_false] at hp;subst hp;exact ⟨by simp [RT.kind,scalT1],fun h=>absurd rfl h,fun _=>by decide +kernel⟩
 ·rw [Jrv];exact ⟨Kau,Jsj⟩
theorem J7a:Jss (objT1.enc [])=true:=by
 unfold Jss;rw [Jr7.2 ⟨objT1,J1e,by decide,rfl⟩,Bool.true_and];decide +kernel
theorem J7y:Jss (noneT.enc [])=false:=by
 unfold Jss;rw [Jr7.2 ⟨noneT,J58,by decide,rfl⟩,Bool.true_and];decide +kernel
theorem J80:Jrb objT1=[123,97,58,32,110,117,109,40,62,61,32,48,41,44,32,63,125]:=by decide +kernel
theorem J8u:Jrm objT1 [⟨false,[97],0⟩]=some 1:=by decide +kernel
theorem Jsb {v:List YRow} (h:∀ r∈v,Jtq r):∀ r∈v,RowFit r:=fun r hr=>Kat (h r hr)
theorem Jwt {v:List YRow} (h:∀ r∈v,Jtq r):∀ r∈v,r.c.s.length≤500:=fun r hr=>by have:=(h r hr).2.2.1;omega
theorem Jqx:Det cx 31 [] [] (.p (.bool true)) []:=by
 have so:∀ r∈objT1.enc [],Jtq r:=by unfold Jtq;decide
 have sn:∀ r∈noneT.enc [],Jtq r:=by unfold Jtq;decide
 have e1:rowL (scalT1.enc [])=[[.int .i64 1,.int .i64 1,.str [],.str [],.int .i64 8,.int .i64 0,.int .i64 0,.str [],.str [],.bool false,.int .i64 0],[.int .i64 9,.int .i64 0,.str [],.str [],.int .i64 5,.int .i64 3,.int .i64 0,.str [],.str [],.bool false,.int .i64 0]]:=rfl;have e2:rowL (noneT.enc [])=[[.int .i64 1,.int .i64 1,.str [],.str [],.int .i64 1,.int .i64 0,.int .i64 0,.str [],.str [],.bool false,.int .i64 0],[.int .i64 9,.int .i64 0,.str [],.str [],.int .i64 1,.int .i64 0,.int .i64 0,.str [],.str [],.bool false,.int .i64 0]]:=rfl;have e3:rowL (objT1.enc [])=[[.int .i64 2,.int .i64 1,.str [],.str [],.int .i64 1,.int .i64 0,.int .i64 0,.str [],.str [],.bool false,.int .i64 0],[.int .i64 1,.int .i64 1,.str [97],.str [],.int .i64 8,.int .i64 0,.int .i64 0,.str [],.str [],.bool false,.int .i64 0],[.int .i64 9,.int .i64 0,.str [],.str [],.int .i64 5,.int .i64 3,.int .i64 0,.str [],.str [],.bool false,.int .i64 0]]:=rfl;have hM:=J15 ⟨2,0,[],[],1,zeroN⟩ [[97]] [scalT1.enc []] de de de de de;rw [show Juz ⟨2,0,[],[],1,zeroN⟩ [[97]] [scalT1.enc []]=objT1.enc [] from rfl,e3,show Jqy [scalT1.enc []]=[[.sl [[.int .i64 1,.int .i64 1,.str [],.str [],.int .i64 8,.int .i64 0,.int .i64 0,.str [],.str [],.bool false,.int .i64 0],[.int .i64 9,.int .i64 0,.str [],.str [],.int .i64 5,.int .i64 3,.int .i64 0,.str [],.str [],.bool false,.int .i64 0]]]] from rfl,show Jq1 [[97]]=[[.str [97]]] from rfl] at hM;have hL:=Jwu [⟨false,[97],0⟩] objT1 [] de de;rw [J8u,e3,show Bb [⟨false,[97],0⟩]=[[.bool false,.str [97],.int .i64 0]] from rfl,show Jur (some 1)=.tup [.int .i64 1,.bool true] from rfl] at hL;have hT:=Jvj 10000 (Nat.le_refl _) objT1 [] J1e de (J4r objT1 [] J1e so) de;rw [J80,e3] at hT;have hG:=Jzo (objT1.enc []) de (Jsb so) (Jwt so);rw [J7a,e3] at hG;have hG2:=Jzo (noneT.enc []) de (Jsb sn) (Jwt sn);rw [J7y,e2] at hG2;have hR:=Jz5 (noneT.enc []) de (Jsb sn);rw [Jr7.2 ⟨noneT,J58,by decide,rfl⟩,e2] at hR;have hP:=J0n [] 2 [] 1 zeroN (.cons [97] scalT1 .nil) de de;rw [show (RT.mk 2 [] 1 zeroN (.cons [97] scalT1 .nil))=objT1 from rfl,e3,show Jra (RF.cons [97] scalT1 .nil).list=[[.sl [[.int .i64 1,.int .i64 1,.str [],.str [],.int .i64 8,.int .i64 0,.int .i64 0,.str [],.str [],.bool false,.int .i64 0],[.int .i64 9,.int .i64 0,.str [],.str [],.int .i64 5,.int .i64 3,.int .i64 0,.str [],.str [],.bool false,.int .i64 0]]]] from rfl] at hP;have hA:=Jxm [] [] 8 zeroN (.cons [] (Jyn 5 zNum) .nil) de (by intro p hp;simp only [RF.list,List.mem_cons,List.not_mem_nil,or_false] at hp;subst hp;rfl);rw [show (RT.mk 1 [] 8 zeroN (.cons [] (Jyn 5 zNum) .nil))=scalT1 from rfl,e1,show Jq9 (Jqf (RF.cons [] (Jyn 5 zNum) .nil).list)=[[.int .i64 5,.int .i64 3,.int .i64 0,.str [],.str [],.bool false,.int .i64 0]] from rfl] at hA;have hS:=Kel (objT1.enc []) (objT1.enc []) de de;rw [decide_eq_true rfl,e3] at hS;clear so sn e1 e2 e3;(refine bgo Tryz.func31 ?_;simp only [go_sem,simprocAttr]);(repeat' (first | ((first | (refine Jqa (hM) ?_)|(refine Jqa (hL) ?_)|(refine Jqa (hT) ?_)|(refine Jqa (hG) ?_)|(refine Jqa (hG2) ?_)|(refine Jqa (hR) ?_)|(refine Jqa (hP) ?_)|(refine Jqa (hA) ?_)|(refine Jqa (hS) ?_));simp only [go_sem,simprocAttr]) | fail))
attribute [go_sem] Tryz.ntmps8 Tryz.results8
theorem J1v {p:List Step} (hp:PathFit p) (h:E9 p):p.length≤1000000:=by have:=h.1;omega
theorem J3u {s:List UInt8} {g:Int} {c:Node} {kids:RF} (h:okR (.mk 1 s g c kids)):Jwg kids.list:=by
 obtain ⟨_,h2,_,h4⟩:=Jr5.1 h;intro p hp;have ho:=Jst.1 h4 p hp;have h9:=(h2.1 p hp).1.2 rfl;obtain ⟨nm',⟨k',s',n',c',kids'⟩⟩:=p;simp only [RT.kind,RT.kids] at h9 ⊢;rw [Jr5] at ho;subst h9;have hz:kids'.len=0:=by have:=ho.1;unfold Jqv at this;simp at this;omega
 cases kids' with
 | nil=>rfl
 | cons a b c=>simp [RF.len] at hz
theorem Jxv:∀ {f:RF} {p:RKT},p∈f.list→(p.2.enc []).length≤f.enc.length
 | .nil,p,h=>by simp [RF.list] at h
 | .cons nm (.mk k s n c kids) r,p,h=>by
  rw [Jqe,List.length_append,Jqh,List.length_cons];rcases List.mem_cons.1 (show p∈(nm,RT.mk k s n c kids) :: r.list from h) with rfl | h
  ·rw [Jqh,List.length_cons];omega
  ·have:=Jxv h;omega
end Go.LX
