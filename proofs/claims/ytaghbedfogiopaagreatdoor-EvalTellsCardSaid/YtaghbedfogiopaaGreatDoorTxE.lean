/- The operations on values that are written out: each by lemmas of its own; what comes behind is named, never a lambda. -/
import Derived.Test.YtaghbedfogiopaaGreatDoorTxD
import Derived.Lib.LaidTab
set_option linter.all false
namespace Go.LX
open Go Go.RowKit Go.Proofs
variable {A B:St->Prop}{α γ:Type}{i j d len EE:Nat}(s:St){b FY c fu:Bool}{ops:List Oper}{Q:Ex->St->Prop}{o o2:Operand}{C:List PV->Prop}{dj:Tmp}{op:BinOp}{ty e T sb sa kt:TypeId}{k:IntKind}{ts:List YQ}{q:DG}{n h:Int}{v z:PV}{bs:List UInt8}{ns:List Int}{es CN:List (List PV)}{dst:Option Tmp}{m mm:List (PV×PV)}{l MI:List ResultVar}{ps xs zs:List PV}{g f:FuncId}{GO bad Np D keys:List Nat}{os args:List Operand}{ρ:Ren}{DU BR r rs:BX}{nw:Option Nat}{w:World}(bb:Option Nat){tt:Prop}{β:ET}{Im:Nat->Prop}{X:Cx}{vs:List Value}{BN:Array Bool}
def pe{A B:Prop}(h:A↔B):A=B:=propext h
def Bq(o:Option α)(C:α->Prop):Prop:=∃a,o=some a/\C a
def Q9{a:α}{C:α->Prop}:Bq (some a) C=C a:=pe ⟨fun⟨_,h,hc⟩=>by cases h;exact hc,fun h=>⟨a,rfl,h⟩⟩
def FK(o:Option α)(C:α->Prop):Prop:=∃a,o=some a/\C a
def Jeg{a:α}{C:α->Prop}:FK (some a) C=C a:=pe ⟨fun⟨_,h,hc⟩=>by cases h;exact hc,fun h=>⟨a,rfl,h⟩⟩
def Yl[Inhabited α]{l:List α}{C:α->Prop}:FK (l[i]?) C=(i<l.length/\C (l.getD i default)):=by
 apply pe;constructor
 ·rintro⟨a,h,hc⟩;obtain⟨h1,rfl⟩:=DX.1 h;exact⟨h1,by simpa[GU,h1]using hc⟩
 ·rintro⟨h1,hc⟩;exact⟨l[i],C' h1,by simpa[GU,h1]using hc⟩
def Jmu[Inhabited α]{l:List α}{f:α->γ}{C:γ->Prop}:FK ((l.map f)[i]?) C=(i<l.length/\C (f (l.getD i default))):=by
 apply pe;rw[show FK ((l.map f)[i]?) C↔FK (l[i]?) (fun a=>C (f a))from Iff.of_eq iv,Yl]
def BS(s:List UInt8)(i:Nat):Nat:=(s.getD i 0).toNat
def Fr(s:List UInt8)(i:Nat):BS s i<=255:=by
 have:=(s.getD i 0).toNat_lt;simp only[BS];omega
def cG{s:List UInt8}{b:UInt8}(h:s[i]?=some b):BS s i=b.toNat:=by simp[BS,GU,h]
def Ql{s:List UInt8}(h:i<s.length):BS s i=s[i].toNat:=by simp[BS,GU,h]
section
variable {X:Cx} {P:Program} {ro:Option Nat} {K:L->Prop} {J:St->Prop} {t:List L} {r:BX} {ds:List (Option Tmp)}
def iw{id:Nat}{ops:Array Oper}:KQ X ro (.region id ops true) Q ⟨t,r⟩=CL X ro (.region id ops true) Q ⟨t,r⟩:=(rfl)
def qP{o:Oper}{C:St->Prop}:OZ X ds (o::ops) 0 C ⟨t,r⟩=F4 ds o.guard (Fh X o C) (F9 o.dst C) ⟨t,r⟩:=(rfl)
def qQ{o:Oper}{C:St->Prop}:OZ X ds (o::ops) (i+1) C ⟨t,r⟩=OZ X ds ops i C ⟨t,r⟩:=(rfl)
def Jje:F4 ds none A B ⟨t,r⟩=A ⟨t,r⟩:=(rfl)
def iz:O0 (.p (.bool b)) A B ⟨t,r⟩=if b=true then A ⟨t,r⟩else B ⟨t,r⟩:=by
 cases b<;>simp[O0]
def qR(o:Option Tmp)(FY:Bool)(A B:St->Prop)(s:St):Prop:=
 match o with
 |some dj=>match s.tmps.getD dj .junk with
  |.p (.bool c)=>(c=FY->A (s.put (some dj) (.p (.bool FY))))/\(c=(!FY)->B (s.put (some dj) (.p (.bool (!FY)))))
  |.tup []=>B s
  |_=>False
 |none=>False
def ZF(l:L)(dj:Tmp)(FY:Bool)(A B:St->Prop)(s:St):Prop:=match l with|.p (.bool c)=>(c=FY->A (s.put (some dj) (.p (.bool FY))))/\(c=(!FY)->B (s.put (some dj) (.p (.bool (!FY)))))|.tup []=>B s|_=>False
def Jpt:F4 ds (some (j,FY)) A B ⟨t,r⟩=qR (ds.getD j none) FY A B ⟨t,r⟩:=(rfl)
def jA:qR (some dj) FY A B ⟨t,r⟩=ZF (t.getD dj .junk) dj FY A B ⟨t,r⟩:=(rfl)
def Jlr:ZF (.p (.bool c)) dj true A B ⟨t,r⟩=if c=true then A ⟨t.set dj (.p (.bool true)),r⟩else B ⟨t.set dj (.p (.bool false)),r⟩:=by
 cases c<;>simp[ZF,St.put]
def Jie:ZF (.p (.bool c)) dj false A B ⟨t,r⟩=if c=true then B ⟨t.set dj (.p (.bool true)),r⟩else A ⟨t.set dj (.p (.bool false)),r⟩:=by
 cases c<;>simp[ZF,St.put]
def Jb5:ZF (.tup []) dj FY A B ⟨t,r⟩=B ⟨t,r⟩:=(rfl)
def jB{a b:L}:wJ (.p (.bool c)) a b K=if c=true then K a else K b:=by cases c<;>simp[wJ]
variable {PS:Bool}
def Jgk{k':IntKind}{a b:Int}:HX P op ty PS (.p (.int k a)) (.p (.int k' b)) K=FP op k a k' b K:=(rfl)
def Jfr{a b:List UInt8}:HX P op ty PS (.p (.str a)) (.p (.str b)) K=LK op a b K:=(rfl)
def Jho{a:Bool}:HX P .eql ty PS (.p (.bool a)) (.p (.bool b)) K=(P.underlying ty=some .bool/\K (.p (.bool (a==b)))):=(rfl)
def Jhz{a:Bool}:HX P .neq ty PS (.p (.bool a)) (.p (.bool b)) K=(P.underlying ty=some .bool/\K (.p (.bool (a != b)))):=(rfl)
def kb(K:L->Prop)(b:Bool):Prop:=K (.p (.bool b))
def knb(K:L->Prop)(b:Bool):Prop:=K (.p (.bool (!b)))
def zu(o:Option (List YQ))(a b:List PV)(C:Bool->Prop):Prop:=∃ts,o=some ts/\Bq (Bt ts a b) C
def Jnt{a b:List PV}{C:Bool->Prop}:zu (some ts) a b C=Bq (Bt ts a b) C:=pe ⟨fun⟨_,h,hc⟩=>by cases h;exact hc,fun h=>⟨ts,rfl,h⟩⟩
def Jhd{a b:List PV}:HX P .eql ty PS (.p (.agg a)) (.p (.agg b)) K=zu (Nt P ty) a b (kb K):=(rfl)
def Jfg{a b:List PV}:HX P .neq ty PS (.p (.agg a)) (.p (.agg b)) K=zu (Nt P ty) a b (knb K):=(rfl)
def bG(o:Option TypeDesc)(b:Bool):Option Bool:=match o with|some (.pointer _)=>some b|_=>none
def WY(o:Option TypeDesc)(b:Bool):Option Bool:=match o with|some (.interface _)=>some b|_=>none
def bH(o:Option TypeDesc)(b:Bool):Option Bool:=match o with|some (.slice _)=>some b|_=>none
def jC(P:Program)(o:Option TypeDesc)(c:Bool):Option Bool:=match o with|some (.pointer e)=>if c=true/\P.cellsOf e≠0 then some true else none|_=>none
def jD:bG (some (.pointer e)) b=some b:=(rfl)
def jE{ms:Array (String×TypeId)}:WY (some (.interface ms)) b=some b:=(rfl)
def jF:bH (some (.slice e)) b=some b:=(rfl)
def jG:jC P (some (.pointer e)) c=if c=true/\P.cellsOf e≠0 then some true else none:=(rfl)
section
variable {op:BinOp} {ty:TypeId} {d i j d' i' j':Nat}
def jH:HX P op ty PS (.p .nptr) (.p .nptr) K=Db (bG (P.underlying ty) true) op K:=by
 show Db (Fy P ty PS (.p .nptr) (.p .nptr)) op K=_;unfold Fy bG;generalize P.underlying ty=o;cases o with
 |none=>rfl
 |some o=>cases o<;>rfl
def Jm1:HX P op ty PS (.ptr d i j) (.p .nptr) K=Db (bG (P.underlying ty) false) op K:=by
 show Db (Fy P ty PS (.ptr d i j) (.p .nptr)) op K=_;unfold Fy bG;generalize P.underlying ty=o;cases o with
 |none=>rfl
 |some o=>cases o<;>rfl
def Jjt:HX P op ty PS (.ptr d i j) (.ptr d' i' j') K=Db (jC P (P.underlying ty) (d==d'&&(i==i'&&j==j'))) op K:=by
 show Db (Fy P ty PS (.ptr d i j) (.ptr d' i' j')) op K=_;unfold Fy jC;generalize P.underlying ty=o;cases o with
 |none=>rfl
 |some o =>
  cases o<;>first|rfl|(simp only[OS,AK,and_assoc])
def jI:HX P op ty true (.p .nifc) (.p .nifc) K=Db (WY (P.underlying ty) true) op K:=by
 show Db (Fy P ty true (.p .nifc) (.p .nifc)) op K=_;unfold Fy WY;generalize P.underlying ty=o;cases o with
 |none=>rfl
 |some o=>cases o<;>rfl
def jJ:HX P op ty PS (.p .ifc) (.p .nifc) K=Db (WY (P.underlying ty) false) op K:=by
 show Db (Fy P ty PS (.p .ifc) (.p .nifc)) op K=_;unfold Fy WY;generalize P.underlying ty=o;cases o with
 |none=>rfl
 |some o=>cases o<;>rfl
def Jnb{q:IntKind}:HX P op ty PS (.p (.ifi T q n)) (.p .nifc) K=Db (WY (P.underlying ty) false) op K:=by
 show Db (Fy P ty PS (.p (.ifi T q n)) (.p .nifc)) op K=_;unfold Fy WY;generalize P.underlying ty=o;cases o with
 |none=>rfl
 |some o=>cases o<;>rfl
def jK:HX P op ty PS (.p .snil) (.p .snil) K=Db (bH (P.underlying ty) true) op K:=by
 show Db (Fy P ty PS (.p .snil) (.p .snil)) op K=_;unfold Fy bH;generalize P.underlying ty=o;cases o with
 |none=>rfl
 |some o=>cases o<;>rfl
def jL{c:List PV}{cs:List (List PV)}:HX P op ty PS (.p (.sl (c::cs))) (.p .snil) K=Db (bH (P.underlying ty) false) op K:=by
 show Db (Fy P ty PS (.p (.sl (c::cs))) (.p .snil)) op K=_;unfold Fy bH;generalize P.underlying ty=o;cases o with
 |none=>rfl
 |some o=>cases o<;>rfl
end
def Xs:Db (some b) .eql K=K (.p (.bool b)):=(rfl)
def Xf:Db (some b) .neq K=K (.p (.bool (!b))):=(rfl)
def Jp4{v:Value}:D8 (.const v)=true:=(rfl)
def Jey{i:Tmp}:D8 (.tmp i)=false:=(rfl)
def zw:kb K b=K (.p (.bool b)):=(rfl)
def qS:knb K b=K (.p (.bool (!b))):=(rfl)
def WZ(b:Bool):Option Bool->Option Bool|some x=>some (b&&x)|none=>none
def Jem{a:Bool}:WZ a (some b)=some (a&&b):=(rfl)
def Un:Bt [] [] []=some true:=(rfl)
def So{a:Bool}{x y:List PV}:Bt (.bool::ts) (.bool a::x) (.bool b::y)=WZ (a==b) (Bt ts x y):=by
 simp only[Bt,WZ];cases Bt ts x y<;>rfl
def Vz{a b:Int}{x y:List PV}:Bt (.int::ts) (.int k a::x) (.int k b::y)=WZ (a==b) (Bt ts x y):=by
 simp only[Bt,WZ,if_true];cases Bt ts x y<;>rfl
def Vl{a b:List UInt8}{x y:List PV}:Bt (.str::ts) (.str a::x) (.str b::y)=WZ (a==b) (Bt ts x y):=by
 simp only[Bt,WZ];cases Bt ts x y<;>rfl
variable {k k':IntKind} {a b:Int}
def B0(k:IntKind):Nat:=k.bits
def qT:FP .shl k a k' b K=(0<=b/\K (.p (.int k (k.wrap (a*2^min b.toNat (B0 k)))))):=(rfl)
def qU:FP .shr k a k' b K=(0<=b/\K (.p (.int k (a.fdiv (2^min b.toNat (B0 k)))))):=(rfl)
def qV:FP .add k a k b K=K (.p (.int k (k.wrap (a+b)))):=by simp[FP]
def qW:FP .sub k a k b K=K (.p (.int k (k.wrap (a-b)))):=by simp[FP]
def qX:FP .mul k a k b K=K (.p (.int k (k.wrap (a*b)))):=by simp[FP]
def qY:FP .quo k a k b K=(b≠0/\K (.p (.int k (k.wrap (a.tdiv b))))):=by simp[FP]
def qZ:FP .rem k a k b K=(b≠0/\K (.p (.int k (a.tmod b)))):=by simp[FP]
def qa:FP .and k a k b K=K (.p (.int k (k.wrap (BitVec.ofInt (B0 k) a &&& BitVec.ofInt (B0 k) b).toNat))):=by unfold B0;simp[FP]
def zx:FP .or k a k b K=K (.p (.int k (k.wrap (BitVec.ofInt (B0 k) a ||| BitVec.ofInt (B0 k) b).toNat))):=by unfold B0;simp[FP]
def qb:FP .eql k a k b K=K (.p (.bool (a==b))):=by simp[FP]
def qc:FP .neq k a k b K=K (.p (.bool (a != b))):=by simp[FP]
def qd:FP .lss k a k b K=K (.p (.bool (decide (a<b)))):=by simp[FP]
def qe:FP .leq k a k b K=K (.p (.bool (decide (a<=b)))):=by simp[FP]
def qf:FP .gtr k a k b K=K (.p (.bool (decide (b<a)))):=by simp[FP]
def qg:FP .geq k a k b K=K (.p (.bool (decide (b<=a)))):=by simp[FP]
variable {x y:List UInt8}
def jM:LK .add x y K=(x.length+y.length<=9223372036854775807/\K (.p (.str (x++y)))):=(rfl)
def jN:LK .eql x y K=K (.p (.bool (x==y))):=(rfl)
def jO:LK .neq x y K=K (.p (.bool (!(x==y)))):=(rfl)
def jP:LK .lss x y K=K (.p (.bool (Op.bytesLess x y))):=(rfl)
def jQ:LK .gtr x y K=K (.p (.bool (!(Op.bytesLess x y||x==y)))):=(rfl)
def jR:LK .geq x y K=K (.p (.bool (!(Op.bytesLess x y)))):=(rfl)
def qh:cr .neg (.p (.int k a)) K=K (.p (.int k (k.wrap (0-a)))):=(rfl)
def qk:cr .not (.p (.bool c)) K=K (.p (.bool (!c))):=(rfl)
def ql:Fj true [.p (.int k a),.p (.int k' b)] K=K (.p (.int k (max a b))):=(rfl)
def qm:Fj false [.p (.int k a),.p (.int k' b)] K=K (.p (.int k (min a b))):=(rfl)
def jS(K:L->Prop)(bs:List UInt8):Prop:=K (.p (.str bs))
def jT:jS K bs=K (.p (.str bs)):=(rfl)
def jU:Option TypeDesc->Bool|some (.int .i32)=>true|_=>false
def Kgs:jU (some (.int .i32))=true:=(rfl)
def Kgf:jU (some (.int .u8))=false:=(rfl)
def qn(P:Program):Option TypeDesc->Bool|some (.slice e)=>jU (P.underlying e)|_=>false
def zy{ta:TypeId}:fP P ta=qn P (P.underlying ta):=by
 unfold fP qn jU;cases P.underlying ta with
 |none=>rfl
 |some q=>cases q<;>rfl
def Kex:qn P (some (.slice e))=jU (P.underlying e):=(rfl)
def Kcn:qn P (some (.int k))=false:=(rfl)
def qo(K:L->Prop)(ns:List Int):Prop:=K (.p (.str (ns.flatMap fun n=>(Utf8.encode n).data.toList)))
def jV:qo K ns=K (.p (.str (ns.flatMap fun n=>(Utf8.encode n).data.toList))):=(rfl)
def Kfy:pc P sb (.p (.sl es)) K=(P.underlying sb=some .string/\Bq (dH es) (qo K)):=(rfl)
def J0w:dH (ns.map fun n=>[.int .i32 n])=some ns:=by
 induction ns with
 |nil=>rfl
 |cons n ns ih=>simp only[Fc,dH,ih]
def qp:po P sa sb o dst J ⟨t,r⟩=if qn P (P.underlying sa)=true then pc P sb ((St.mk t r).get o) (DL dst J ⟨t,r⟩)else J1 P sa sb ((St.mk t r).get o) (DL dst J ⟨t,r⟩):=by
 rw[<-zy];rfl
def zz(P:Program)(o q:Option TypeDesc)(d j:Nat)(r:Option DG)(K:L->Prop):Prop:=match r,o,q with|some (.var _ cs),some (.pointer t),some .unsafePointer=>P.cellsOf t≠0/\j<cs.length/\K (.ptr d 0 j)|some (.var T cs),some .unsafePointer,some (.pointer u)=>liesAt P P.depth T (cs.length/P.cellsOf T) j u 1=true/\(P.info? u).isSome=true/\K (.ptr d 0 j)|_,_,_=>False
def Jgg:ni P sa sb ⟨t,r⟩ o dst J (.ptr d 0 j)=zz P (P.underlying sa) (P.underlying sb) d j (Am d r) (DL dst J ⟨t,r⟩):=(rfl)
def Jg3{k:IntKind}:ni P sa sb ⟨t,r⟩ o dst J (.p (.int k n))=po P sa sb o dst J (St.freezeOps ⟨t,r⟩ [o]):=(rfl)
def Jlo:ni P sa sb ⟨t,r⟩ o dst J (.p (.sl es))=po P sa sb o dst J (St.freezeOps ⟨t,r⟩ [o]):=(rfl)
def z7(oa:Option TypeDesc)(e:TypeId)(dst:Option Tmp)(x:List UInt8)(s:St)(J:St->Prop):Prop:=match dst with|some d=>oa=some .string/\d<1000/\x.length<=70368744177664/\J ((s.newReg d (.row e 1 (ZZ x))).put (some d) (.own d 0 (ZZ x).length))|none=>False
def qq{oa:Option TypeDesc}{x:List UInt8}:z7 oa e (some d) x ⟨t,r⟩ J=(oa=some .string/\d<1000/\x.length<=70368744177664/\J ((St.newReg d (.row e 1 (ZZ x)) ⟨t,r⟩).put (some d) (.own d 0 (ZZ x).length))):=(rfl)
def wS(P:Program)(sa sb:TypeId)(oa ob:Option TypeDesc)(x:List UInt8)(s:St)(dst:Option Tmp)(J:St->Prop):Prop:=match ob with|some (.slice e)=>if jU (P.underlying e)=true then z7 oa e dst x s J else oa.isSome=true/\P.underlying e=some (.int .u8)/\DL dst J s (.p (.sl (x.map fun c=>[.int .u8 c.toNat])))|_=>J1 P sa sb (.p (.str x)) (DL dst J s)
def Jev{x:List UInt8}:ni P sa sb ⟨t,r⟩ o dst J (.p (.str x))=wS P sa sb (P.underlying sa) (P.underlying sb) x ⟨t,r⟩ dst J:=by
 show Og P sa sb x ⟨t,r⟩ dst J=_;unfold Og wS;rw[zy];cases P.underlying sb with
 |none=>rfl
 |some q=>cases q<;>rfl
def Jil{oa:TypeDesc}{x:List UInt8}:wS P sa sb (some oa) (some (.slice e)) x ⟨t,r⟩ dst J=if jU (P.underlying e)=true then z7 (some oa) e dst x ⟨t,r⟩ J else(P.underlying e=some (.int .u8)/\DL dst J ⟨t,r⟩ (.p (.sl (x.map fun c=>[.int .u8 c.toNat])))):=by simp[wS]
def Jhe{m n:Nat}:ni P sa sb ⟨t,r⟩ o dst J (.own d m n)=po P sa sb o dst J (St.freezeOps ⟨t,r⟩ [o]):=(rfl)
def Jbn{cs:List L}:zz P (some (.pointer ty)) (some .unsafePointer) d j (some (.var T cs)) K=(P.cellsOf ty≠0/\j<cs.length/\K (.ptr d 0 j)):=(rfl)
def Vr{cs:List L}:zz P (some .unsafePointer) (some (.pointer ty)) d j (some (.var T cs)) K=(liesAt P P.depth T (cs.length/P.cellsOf T) j ty 1=true/\(P.info? ty).isSome=true/\K (.ptr d 0 j)):=(rfl)
def Sc(P:Program)(src dst:Option TypeDesc)(x:L)(K:L->Prop):Prop:=match dst,x with|some (.int k),.p (.int _ n)=>src.isSome=true/\K (.p (.int k (k.wrap n)))|some .string,.p (.str s)=>src.isSome=true/\(∀e,src≠some (.slice e))/\K (.p (.str s))|some .string,.p (.int _ n)=>src.isSome=true/\(∀e,src≠some (.slice e))/\K (.p (.str (Utf8.encode n).data.toList))|some .string,.p (.sl es)=>(∃e,src=some (.slice e)/\P.underlying e=some (.int .u8))/\Bq (Cw es) (jS K)|_,_=>False
def jW{s d:TypeId}{x:L}:J1 P s d x K=Sc P (P.underlying s) (P.underlying d) x K:=(rfl)
def Jb3{d:TypeDesc}:Sc P (some d) (some (.int k')) (.p (.int k a)) K=K (.p (.int k' (k'.wrap a))):=by simp[Sc]
def Zt:Sc P (some (.int k')) (some .string) (.p (.int k a)) K=K (.p (.str (Utf8.encode a).data.toList)):=by simp[Sc]
def Uu:Sc P (some (.slice e)) (some .string) (.p (.sl es)) K=(P.underlying e=some (.int .u8)/\Bq (Cw es) (jS K)):=by
 simp[Sc]
def Rr(n:Int):Option (List UInt8)->Option (List UInt8)|some bs=>if 0<=n/\n<256 then some (UInt8.ofNat n.toNat::bs)else none|none=>none
def X9:Cw []=some []:=(rfl)
def My{l:List (List PV)}:Cw ([.int .u8 n]::l)=Rr n (Cw l):=by
 simp only[Cw,Rr];cases Cw l<;>simp
def GN(n:Int):UInt8:=UInt8.ofNat (n%256).toNat
def U0:Rr (IntKind.u8.wrap n) (some bs)=some (GN n::bs):=by
 simp only[Rr,Be,GN];rw[AB omg]
def Jad{s:List UInt8}:Rr (BS s i) (some bs)=some (s.getD i 0::bs):=by
 simp only[Rr];rw[AB ⟨omg,by have:=Fr s i;omega⟩];simp[BS]
def bI(d:Option TypeDesc)(x:L)(K:L->Prop):Prop:=match d,x with|some .string,.p (.str s)=>K (.p (.int .i64 s.length))|some (.slice _),.p (.sl es)=>K (.p (.int .i64 es.length))|some (.slice _),.p .snil=>K (.p (.int .i64 0))|some (.slice _),.own _ _ len=>K (.p (.int .i64 len))|some (.map _ _),.p .nmap=>K (.p (.int .i64 0))|some (.map _ _),.p (.mp es)=>K (.p (.int .i64 es.length))|_,_=>False
variable {es:List (List PV)} {e sz:Nat}
def qt{x:L}:UQ P ty x K=bI (P.underlying ty) x K:=(rfl)
def Jgu:bI (some .string) (.p (.str x)) K=K (.p (.int .i64 x.length)):=(rfl)
def Jjq:bI (some (.slice e)) (.p (.sl es)) K=K (.p (.int .i64 es.length)):=(rfl)
def Jgf:bI (some (.slice e)) (.p .snil) K=K (.p (.int .i64 0)):=(rfl)
def Jfq{o n:Nat}:bI (some (.slice e)) (.own d o n) K=K (.p (.int .i64 n)):=(rfl)
def wT(sz:Nat)(K:L->Prop)(e:List PV):Prop:=e.length=sz/\K (.eptr e)
def Jnm{c:List PV}:wT sz K c=(c.length=sz/\K (.eptr c)):=(rfl)
def nk(r:BX)(o:Option (TypeId×Nat))(q:Option (Nat×TypeId×Nat))(x ix:L)(K:L->Prop):Prop:=
 match x,ix with
 |.p (.sl es),.p (.int _ i)=>match o with
  |some (_,sz)=>0<=i/\FK (es[i.toNat]?) (wT sz K)
  |none=>False
 |.own d By len,.p (.int _ i)=>match Am d r,o with
  |some (.row _ sz _),some (_,EE)=>sz=EE/\0<=i/\i<len/\K (.ptr d (By+i.toNat) 0)
  |some (.lrow _ sz _ _),some (_,EE)=>sz=EE/\0<=i/\i<len/\K (.ptr d (By+i.toNat) 0)
  |_,_=>False
 |.ptr d a b,.p (.int _ i)=>match q with
  |some (n,_,sz)=>0<=i/\i<n/\K (.ptr d a (b+i.toNat*sz))
  |none=>False
 |.eptr cs,.p (.int _ i)=>match q with
  |some (n,_,sz)=>0<=i/\i<n/\i.toNat*sz<=cs.length/\K (.eptr (cs.drop (i.toNat*sz)))
  |none=>False
 |_,_=>False
def wU(q:Option DG)(EE:Nat)(d By len:Nat)(i:Int)(K:L->Prop):Prop:=match q with|some (.row _ sz _)=>sz=EE/\0<=i/\i<len/\K (.ptr d (By+i.toNat) 0)|some (.lrow _ sz _ _)=>sz=EE/\0<=i/\i<len/\K (.ptr d (By+i.toNat) 0)|_=>False
def Yb{x ix:L}:Dg P r ty x ix K=nk r (IW P ty) (cq P ty) x ix K:=by
 unfold Dg nk FK wT;rfl
def Jnd{i:Int}{q:Option (Nat×TypeId×Nat)}:nk r (some (e,sz)) q (.p (.sl es)) (.p (.int k i)) K=(0<=i/\FK (es[i.toNat]?) (wT sz K)):=(rfl)
def Jja{i:Int}{By:Nat}{q:Option (Nat×TypeId×Nat)}:nk r (some (e,sz)) q (.own d By len) (.p (.int k i)) K=wU (Am d r) sz d By len i K:=by
 simp only[nk,wU];generalize Am d r=q;cases q with
 |none=>rfl
 |some q=>cases q<;>rfl
def Jii{i:Int}{d a b n:Nat}{o:Option (TypeId×Nat)}:nk r o (some (n,e,sz)) (.ptr d a b) (.p (.int k i)) K=(0<=i/\i<n/\K (.ptr d a (b+i.toNat*sz))):=(rfl)
def Kbr{i:Int}{By:Nat}{ll:List (List L)}:wU (some (.lrow T sz fu ll)) EE d By len i K=(sz=EE/\0<=i/\i<len/\K (.ptr d (By+i.toNat) 0)):=(rfl)
def Jh1{i:Int}{By:Nat}:wU (some (.row T sz es)) EE d By len i K=(sz=EE/\0<=i/\i<len/\K (.ptr d (By+i.toNat) 0)):=(rfl)
def z8(K:L->Prop)(b:UInt8):Prop:=K (.p (.int .u8 b.toNat))
def kp(K:L->Prop)(c:PV):Prop:=K (.p c)
def z'{c:PV}:kp K c=K (.p c):=(rfl)
def wV(P:Program)(d:Option TypeDesc)(x ix:L)(K:L->Prop):Prop:=match d,x,ix with|some .string,.p (.str s),.p (.int _ i)=>0<=i/\FK (s[i.toNat]?) (z8 K)|some (.array n e),.p (.agg cs),.p (.int _ i)=>B2 P e=some false/\P.cellsOf e=1/\0<=i/\i<n/\FK (cs[i.toNat]?) (kp K)|_,_,_=>False
def Jn3{x ix:L}:Ix P ty x ix K=wV P (P.underlying ty) x ix K:=by
 unfold Ix wV FK z8 kp;rfl
def Jia{i:Int}:wV P (some .string) (.p (.str x)) (.p (.int k i)) K=(0<=i/\i.toNat<x.length/\K (.p (.int .u8 (BS x i.toNat)))):=by
 show(0<=i/\FK (x[i.toNat]?) (z8 K))=_;rw[Yl];rfl
def Keg{n:Nat}{cs:List PV}{i:Int}:wV P (some (.array n e)) (.p (.agg cs)) (.p (.int k i)) K=(B2 P e=some false/\P.cellsOf e=1/\0<=i/\i<n/\FK (cs[i.toNat]?) (kp K)):=(rfl)
def A_(o:Option (Nat×TypeId))(x:L)(K:L->Prop):Prop:=match o,x with|some (By,_),.eptr cs=>By<=cs.length/\K (.eptr (cs.drop By))|some (By,_),.ptr d i j=>K (.ptr d i (j+By))|_,_=>False
variable {By n f:Nat} {ft ty T:TypeId} {cs:List PV} {d i j:Nat} {ls:List L}
def Xz{x:L}:D2 P ty x f K=A_ (PR P ty f) x K:=(rfl)
def Jga:A_ (some (By,ft)) (.eptr cs) K=(By<=cs.length/\K (.eptr (cs.drop By))):=(rfl)
def Jl1:A_ (some (By,ft)) (.ptr d i j) K=K (.ptr d i (j+By)):=(rfl)
def QA(K:L->Prop)(ps:List PV):Prop:=K (.p (.agg ps))
def jX:QA K ps=K (.p (.agg ps)):=(rfl)
def Z0(j:Nat)(K:L->Prop)(e:List PV):Prop:=FK (e[j]?) (kp K)
def Jpe{c:List PV}:Z0 j K c=FK (c[j]?) (kp K):=(rfl)
def bJ(n j:Nat)(K:L->Prop)(e:List PV):Prop:=0<n/\j+n<=e.length/\K (.p (.agg ((e.drop j).take n)))
def jY{c:List PV}:bJ n j K c=(0<n/\j+n<=c.length/\K (.p (.agg ((c.drop j).take n)))):=(rfl)
def qu(j:Nat)(K:L->Prop)(e:List L):Prop:=FK (e[j]?) K
def Kdp{c:List L}:qu j K c=FK (c[j]?) K:=(rfl)
def B_(n j:Nat)(K:L->Prop)(e:List L):Prop:=0<n/\j+n<=e.length/\Bq (Bg L.pure? ((e.drop j).take n)) (QA K)
def nl(n:Nat)(r:BX)(o:Option Bool)(x:L)(K:L->Prop):Prop:=
 match o,x with
 |some false,.eptr cs=>FK (cs[0]?) (kp K)
 |some true,.eptr cs=>0<n/\n<=cs.length/\K (.p (.agg (cs.take n)))
 |some false,.ptr d i j=>match Am d r with
  |some (.var _ cs)=>i=0/\FK (cs[j]?) K
  |some (.row _ _ es)=>FK (es[i]?) (Z0 j K)
  |some (.lrow _ _ _ es)=>FK (es[i]?) (qu j K)
  |some (.obj _)=>False
  |none=>False
 |some true,.ptr d i j=>match Am d r with
  |some (.var _ cs)=>i=0/\0<n/\j+n<=cs.length/\Bq (Bg L.pure? ((cs.drop j).take n)) (QA K)
  |some (.row _ _ es)=>FK (es[i]?) (bJ n j K)
  |some (.lrow _ _ _ es)=>FK (es[i]?) (B_ n j K)
  |some (.obj _)=>False
  |none=>False
 |_,_=>False
def wW(q:Option DG)(i j:Nat)(K:L->Prop):Prop:=match q with|some (.var _ cs)=>i=0/\FK (cs[j]?) K|some (.row _ _ es)=>FK (es[i]?) (Z0 j K)|some (.lrow _ _ _ es)=>FK (es[i]?) (qu j K)|some (.obj _)=>False|none=>False
def C_(q:Option DG)(n i j:Nat)(K:L->Prop):Prop:=match q with|some (.var _ cs)=>i=0/\0<n/\j+n<=cs.length/\Bq (Bg L.pure? ((cs.drop j).take n)) (QA K)|some (.row _ _ es)=>FK (es[i]?) (bJ n j K)|some (.lrow _ _ _ es)=>FK (es[i]?) (B_ n j K)|some (.obj _)=>False|none=>False
def jZ{x:L}:Jc P r ty x K=nl (P.cellsOf ty) r (B2 P ty) x K:=by unfold Jc nl FK kp Bq QA Z0 bJ qu B_ FK Bq QA;rfl
def Y6:nl n r (some false) (.eptr cs) K=FK (cs[0]?) (kp K):=(rfl)
def Xe:nl n r (some true) (.eptr cs) K=(0<n/\n<=cs.length/\K (.p (.agg (cs.take n)))):=(rfl)
def Jb2:nl n r (some false) (.ptr d i j) K=wW (Am d r) i j K:=(rfl)
def Ja4:nl n r (some true) (.ptr d i j) K=C_ (Am d r) n i j K:=(rfl)
def Jex:wW (some (.var T ls)) i j K=(i=0/\FK (ls[j]?) K):=(rfl)
def Jhq:wW (some (.row T sz es)) i j K=FK (es[i]?) (Z0 j K):=(rfl)
def Jgd:C_ (some (.var T ls)) n i j K=(i=0/\0<n/\j+n<=ls.length/\Bq (Bg L.pure? ((ls.drop j).take n)) (QA K)):=(rfl)
def J9v{ll:List (List L)}:wW (some (.lrow T sz fu ll)) i j K=FK (ll[i]?) (qu j K):=(rfl)
def Je7:C_ (some (.row T sz es)) n i j K=FK (es[i]?) (bJ n j K):=(rfl)
def cH:Option Operand->Option L|none=>none|some o=>some (s.get o)
def Jh7{s:St}:cH s none=none:=(rfl)
def Jks{s:St}:cH s (some o)=some (s.get o):=(rfl)
def If(d:Int):Option L->Option Int|none=>some d|some (.p (.int _ n))=>some n|some _=>none
def SD(P:Program)(r:BX)(o:Option TypeDesc)(x:L)(lo hi:Option L)(K:L->Prop):Prop:=match o,x with|some .string,.p (.str s)=>∃l h,If 0 lo=some l/\If s.length hi=some h/\0<=l/\l<=h/\h<=s.length/\K (.p (.str ((s.drop l.toNat).take (h.toNat-l.toNat))))|some (.slice e),.p (.sl es)=>0<P.cellsOf e/\(∀x∈es,x.length=P.cellsOf e)/\∃l h,If 0 lo=some l/\If es.length hi=some h/\0<=l/\l<=h/\h<=es.length/\K (.p (.sl ((es.drop l.toNat).take (h.toNat-l.toNat))))|some (.slice e),.p .snil=>0<P.cellsOf e/\∃l h,If 0 lo=some l/\If 0 hi=some h/\l=0/\h=0/\K (.p .snil)|some (.slice e),.own d By len=>0<P.cellsOf e/\Pa r d=some (P.cellsOf e)/\∃l h,If 0 lo=some l/\If len hi=some h/\0<=l/\l<=h/\h<=(max len (Gx r d-By):Nat)/\K (.own d (By+l.toNat) (h.toNat-l.toNat))|_,_=>False
def Jpp{lo hi:Option Operand}:G2 P r ty (St.mk t r).get o lo hi none K=SD P r (P.underlying ty) ((St.mk t r).get o) (cH ⟨t,r⟩ lo) (cH ⟨t,r⟩ hi) K:=by
 have h1:∀(d:Int) (q:Option Operand),Dr (St.mk t r).get d q=If d (cH ⟨t,r⟩ q):=by
  intro d q;cases q with
  |none=>rfl
  |some q =>
   simp only[Dr,cH];cases(St.mk t r).get q with
   |p v=>cases v<;>rfl
   |_=>rfl
 unfold G2 SD;simp only[h1,true_and];generalize P.underlying ty=q;generalize(St.mk t r).get o=l;cases q with
 |none=>rfl
 |some q=>cases q<;>first|rfl|(cases l<;>first|rfl|(rename_i v;cases v<;>rfl))
def Jpq{l:Int}:SD P r (some .string) (.p (.str x)) (some (.p (.int k l))) none K=(0<=l/\l<=x.length/\K (.p (.str (x.drop l.toNat)))):=by
 simp only[SD,If];apply pe;constructor
 ·rintro⟨l',h',g1,g2,h1,h2,_,h3⟩;cases g1;cases g2;refine⟨h1,h2,?_⟩
  rwa[DK sm]at h3
 ·rintro⟨h1,h2,h3⟩;refine⟨_,_,rfl,rfl,h1,h2,fJ _,?_⟩
  rwa[DK sm]
def Joo:SD P r (some .string) (.p (.str x)) none (some (.p (.int k h))) K=(0<=h/\h<=x.length/\K (.p (.str (x.take h.toNat)))):=by
 simp[SD,If]
def Jol{l:Int}:SD P r (some .string) (.p (.str x)) (some (.p (.int k l))) (some (.p (.int k' h))) K=(0<=l/\l<=h/\h<=x.length/\K (.p (.str ((x.drop l.toNat).take (h.toNat-l.toNat))))):=by
 simp[SD,If]
def Jn6{l:Int}:SD P r (some (.slice e)) (.p (.sl es)) (some (.p (.int k l))) none K=(0<P.cellsOf e/\(∀x∈es,x.length=P.cellsOf e)/\0<=l/\l<=es.length/\K (.p (.sl (es.drop l.toNat)))):=by
 simp only[SD,If];apply pe;constructor
 ·rintro⟨g1,g2,l',h',k1,k2,h1,h2,_,h3⟩;cases k1;cases k2;refine⟨g1,g2,h1,h2,?_⟩
  rwa[DK sm]at h3
 ·rintro⟨g1,g2,h1,h2,h3⟩;refine⟨g1,g2,_,_,rfl,rfl,h1,h2,fJ _,?_⟩
  rwa[DK sm]
def Jps:SD P r (some (.slice e)) (.p (.sl es)) none (some (.p (.int k h))) K=(0<P.cellsOf e/\(∀x∈es,x.length=P.cellsOf e)/\0<=h/\h<=es.length/\K (.p (.sl (es.take h.toNat)))):=by
 simp[SD,If]
def Jpf{l:Int}:SD P r (some (.slice e)) (.p (.sl es)) (some (.p (.int k l))) (some (.p (.int k' h))) K=(0<P.cellsOf e/\(∀x∈es,x.length=P.cellsOf e)/\0<=l/\l<=h/\h<=es.length/\K (.p (.sl ((es.drop l.toNat).take (h.toNat-l.toNat))))):=by
 simp[SD,If]
def Jos:SD P r (some (.slice e)) (.p .snil) none (some (.p (.int k h))) K=(0<P.cellsOf e/\h=0/\K (.p .snil)):=by
 simp[SD,If]
def Jo5{o m:Nat}:SD P r (some (.slice e)) (.own d o m) none (some (.p (.int k h))) K=(0<P.cellsOf e/\Pa r d=some (P.cellsOf e)/\0<=h/\h<=(max m (Gx r d-o):Nat)/\K (.own d o h.toNat)):=by
 simp[SD,If]
def Jp1{l:Int}{o m:Nat}:SD P r (some (.slice e)) (.own d o m) (some (.p (.int k l))) none K=(0<P.cellsOf e/\Pa r d=some (P.cellsOf e)/\0<=l/\l<=m/\K (.own d (o+l.toNat) (m-l.toNat))):=by
 simp only[SD,If];apply pe;constructor
 ·rintro⟨g1,g2,l',h',k1,k2,h1,h2,_,h3⟩;cases k1;cases k2;exact⟨g1,g2,h1,h2,by simpa using h3⟩
 ·rintro⟨g1,g2,h1,h2,h3⟩;exact⟨g1,g2,_,_,rfl,rfl,h1,h2,omg,by simpa using h3⟩
def Jgc{o:Oper}{x:Operand}{lo hi:Option Operand}{d:Nat}:wL P o ty x lo hi dst J ⟨t,r⟩ (.ptr d 0 0)=WT P ty ⟨t,r⟩ d lo hi (DL dst J) (Am d r):=(rfl)
def Jnv{o:Oper}{x:Operand}{lo hi:Option Operand}:wL P o ty x lo hi dst J ⟨t,r⟩ (.p v)=G2 P r ty (St.mk t r).get x lo hi none (DL dst J ⟨t,r⟩):=(rfl)
def Jfb{o:Oper}{x:Operand}{lo hi:Option Operand}{d m n:Nat}:wL P o ty x lo hi dst J ⟨t,r⟩ (.own d m n)=G2 P r ty (St.mk t r).get x lo hi none (DL dst J ⟨t,r⟩):=(rfl)
def dK(d n:Nat)(lo hi:Option L)(N:St->L->Prop)(s:St)(ps:List PV):Prop := ∃l h,If 0 lo=some l/\If n hi=some h/\0<=l/\l<=h/\h<=n/\N (Dx d (some (.ar ps)) s) (.p (.sl (((ps.map fun p=>[p]).drop l.toNat).take (h.toNat-l.toNat))))
def D_(P:Program)(o:Option (Nat×TypeId×Nat))(s:St)(d:Nat)(lo hi:Option L)(N:St->L->Prop)(q:Option DG):Prop:=match q,o with|some (.var _ cs),some (n,_,sz)=>sz=1/\n=cs.length/\Bq (Bg L.pure? cs) (dK d n lo hi N s)|_,_=>False
def ja{lo hi:Option Operand}{N:St->L->Prop}{q:Option DG}{d:Nat}:WT P ty ⟨t,r⟩ d lo hi N q=D_ P (cq P ty) ⟨t,r⟩ d (cH ⟨t,r⟩ lo) (cH ⟨t,r⟩ hi) N q:=by
 have h1:∀(d:Int) (q:Option Operand),Dr (St.mk t r).get d q=If d (cH ⟨t,r⟩ q):=by
  intro d q;cases q with
  |none=>rfl
  |some q =>
   simp only[Dr,cH];cases(St.mk t r).get q with
   |p v=>cases v<;>rfl
   |_=>rfl
 unfold WT D_ dK Bq;simp only[h1];cases q with
 |none=>rfl
 |some q=>cases q<;>first|rfl|(cases cq P ty<;>rfl)
def qv{lo hi:Option L}{N:St->L->Prop}{d n sz:Nat}{e T:TypeId}{cs:List L}:D_ P (some (n,e,sz)) ⟨t,r⟩ d lo hi N (some (.var T cs))=(sz=1/\n=cs.length/\Bq (Bg L.pure? cs) (dK d n lo hi N ⟨t,r⟩)):=(rfl)
def Jk4{d n:Nat}{l:Int}{N:St->L->Prop}:dK d n (some (.p (.int k l))) none N ⟨t,r⟩ ps=(0<=l/\l<=n/\N (Dx d (some (.ar ps)) ⟨t,r⟩) (.p (.sl (((ps.map fun p=>[p]).drop l.toNat).take ((n:Int).toNat-l.toNat))))):=by
 apply pe;constructor
 ·rintro⟨l',h',g1,g2,h1,h2,h3,h4⟩;cases g1;cases g2;exact⟨h1,h2,h4⟩
 ·rintro⟨h1,h2,h3⟩;exact⟨_,_,rfl,rfl,h1,h2,omg,h3⟩
def wX:Option DG->Option Nat|some (.row _ sz _)=>some sz|some (.lrow _ sz _ _)=>some sz|_=>none
def wY:Option DG->Nat|some (.row _ _ es)=>es.length|some (.lrow _ _ _ es)=>es.length|_=>0
def Jpy:Pa r d=wX (Am d r):=by
 unfold Pa wX;cases Am d r with
 |none=>rfl
 |some g=>cases g<;>rfl
def Jl4:Gx r d=wY (Am d r):=by
 unfold Gx wY;cases Am d r with
 |none=>rfl
 |some g=>cases g<;>rfl
def Jhh:wX (some (.row T sz es))=some sz:=(rfl)
def Jbq{ll:List (List L)}:wX (some (.lrow T sz fu ll))=some sz:=(rfl)
def Jhv:wY (some (.row T sz es))=es.length:=(rfl)
def Jaj{ll:List (List L)}:wY (some (.lrow T sz fu ll))=ll.length:=(rfl)
def Jhi:Qk (.tup xs) i K=FK (xs[i]?) (kp K):=(rfl)
def Jgm:iI (.ptr d i j) K=K (.ptr d i j):=(rfl)
def kfn(g:FuncId)(K:L->Prop)(GO:List Nat):Prop:=K (.fn g GO)
def qw:kfn g K GO=K (.fn g GO):=(rfl)
def jb{d i j:Nat}:aT g (.ptr d i j::ls) K=Bq (Hq (.ptr d i j::ls)) (kfn g K):=by cases ls<;>rfl
def Kf4{cs:List PV}:aT g [.eptr cs] K=K (.p (.clo g cs)):=(rfl)
def qx(d:Nat):Option (List Nat)->Option (List Nat)|some l=>some (d::l)|none=>none
def Jfv{l:List Nat}:qx d (some l)=some (d::l):=(rfl)
def Ja9:Hq []=some []:=(rfl)
def Zm:Hq (.ptr d 0 0::ls)=qx d (Hq ls):=(rfl)
def RE(o:Option (List PV))(sz:Nat):Prop:=∃zs,o=some zs/\zs.length=sz
def qy:RE (some zs) sz=(zs.length=sz):=pe ⟨fun⟨_,h,hc⟩=>by cases h;exact hc,fun h=>⟨zs,rfl,h⟩⟩
def Jmp(P:Program)(ty:TypeId)(parts:List (Nat×L))(K:L->Prop)(z:List PV):Prop:=Ez P ty=true/\Bq (Ef P ty z parts) (QA K)
def Jir{parts:List (Nat×L)}{z:List PV}:Jmp P ty parts K z=(Ez P ty=true/\Bq (Ef P ty z parts) (QA K)):=(rfl)
def Jn5{parts:List (Nat×L)}(h:Ez P ty=true):Vf P ty parts K=Bq (Bu P ty) (Jmp P ty parts K):=by
 unfold Vf;split
 ·rename_i n e he;unfold Ez at h;rw[he]at h;cases h
 ·rfl
def J7p{n e:Nat}{parts:List (Nat×L)}(h:P.underlying ty=some (.array n e)):Vf P ty parts K=(P.cellsOf e=1/\n=parts.length/\RE (Bu P ty) n/\Bq (aS 0 parts) (QA K)):=by
 unfold Vf;rw[h];rfl
def jc(v:PV):Option (List PV)->Option (List PV)|some r=>some (v::r)|none=>none
def jd{r:List PV}:jc v (some r)=some (v::r):=(rfl)
def Kc7{k:Nat}:aS k []=some []:=(rfl)
def J97{k i:Nat}{BR:List (Nat×L)}:aS k ((i,.p v)::BR)=if i=k/\v.scalar=true then jc v (aS (k+1) BR)else none:=by
 unfold jc;rfl
def W8(P:Program)(ty:TypeId)(cs:List PV)(o:Option (Nat×TypeId))(x:L)(BR:List (Nat×L)):Option (List PV):=match o,x with|some (By,ft),.p (.agg xs)=>if xs.length=P.cellsOf ft/\By+xs.length<=cs.length then Ef P ty (cs.take By++xs++cs.drop (By+xs.length)) BR else none|some (By,ft),.p v=>if 1=P.cellsOf ft/\By+1<=cs.length then Ef P ty (cs.set By v) BR else none|_,_=>none
def Jcq:Ef P ty cs []=some cs:=(rfl)
def Ys{BR:List (Nat×L)}{x:L}:Ef P ty cs ((i,x)::BR)=W8 P ty cs (PR P ty i) x BR:=by
 simp only[Ef,W8];rfl
def J91{BR:List (Nat×L)}:W8 P ty cs (some (By,ft)) (.p (.agg xs)) BR=if xs.length=P.cellsOf ft/\By+xs.length<=cs.length then Ef P ty (cs.take By++xs++cs.drop (By+xs.length)) BR else none:=(rfl)
def Xj{BR:List (Nat×L)}{v:Bool}:W8 P ty cs (some (By,ft)) (.p (.bool v)) BR=if 1=P.cellsOf ft/\By+1<=cs.length then Ef P ty (cs.set By (.bool v)) BR else none:=(rfl)
def Jas{BR:List (Nat×L)}:W8 P ty cs (some (By,ft)) (.p (.int k a)) BR=if 1=P.cellsOf ft/\By+1<=cs.length then Ef P ty (cs.set By (.int k a)) BR else none:=(rfl)
def Jap{BR:List (Nat×L)}:W8 P ty cs (some (By,ft)) (.p (.str x)) BR=if 1=P.cellsOf ft/\By+1<=cs.length then Ef P ty (cs.set By (.str x)) BR else none:=(rfl)
def Jj2(d:Nat)(T:TypeId)(s:St)(J:St->Prop)(zs:List PV):Prop:=J ((s.newReg d (.var T (zs.map .p))).put (some d) (.ptr d 0 0))
def Jjj:Jj2 d T ⟨t,r⟩ J zs=J ((St.newReg d (.var T (zs.map .p)) ⟨t,r⟩).put (some d) (.ptr d 0 0)):=(rfl)
def Jno:Wg P d T ⟨t,r⟩ J=(d<1000/\Bq (Bu P T) (Jj2 d T ⟨t,r⟩ J)):=(rfl)
def qz(d:Nat)(T:TypeId)(s:St)(J:St->Prop)(xs:List L):Prop:=J ((s.newReg d (.var T (xs.map (L.forget d)))).put (some d) (.ptr d 0 0))
def je{xs:List L}:qz d T ⟨t,r⟩ J xs=J ((St.newReg d (.var T (xs.map (L.forget d))) ⟨t,r⟩).put (some d) (.ptr d 0 0)):=(rfl)
def q6:dB d T ⟨t,r⟩ o J=(d<1000/\Bq (B3 ((St.mk t r).get o)) (qz d T ⟨t,r⟩ J)):=(rfl)
def Jjl:St.newReg d q ⟨t,r⟩=⟨t.map (L.forget d),(d,q)::Cv d r⟩:=(rfl)
def Jkj:St.forget d ⟨t,r⟩=⟨t.map (L.forget d),Cv d r⟩:=(rfl)
def Jic:B3 (.p (.agg ps))=some (ps.map .p):=(rfl)
def Je0:B3 (.p (.bool c))=some [.p (.bool c)]:=(rfl)
def Jjc:B3 (.p (.int k a))=some [.p (.int k a)]:=(rfl)
def Jj3:B3 (.p (.str x))=some [.p (.str x)]:=(rfl)
def Jox:B3 (.p (.sl es))=some [.p (.sl es)]:=(rfl)
def Jf8:B3 (.p .snil)=some [.p .snil]:=(rfl)
def Jmb{o m:Nat}:B3 (.own d o m)=some [.own d o m]:=(rfl)
def Jmt:B3 (.ptr d i j)=some [.ptr d i j]:=(rfl)
def wZ(P:Program)(ty:TypeId)(d i j:Nat)(T:TypeId)(cs:List L)(s:St)(J:St->Prop)(xs:List L):Prop := i=0/\xs.length=P.cellsOf ty/\P.cellsOf ty≠0/\j+xs.length<=cs.length/\J { s with regs:=Bs d (.var T (cs.take j++xs++cs.drop (j+xs.length))) s.regs }
def q7{xs:List L}:wZ P ty d i j T ls ⟨t,r⟩ J xs=(i=0/\xs.length=P.cellsOf ty/\P.cellsOf ty≠0/\j+xs.length<=ls.length/\J ⟨t,Bs d (.var T (ls.take j++xs++ls.drop (j+xs.length))) r⟩):=(rfl)
def dL(P:Program)(ty:TypeId)(a:Operand)(d i j:Nat)(T:TypeId)(sz:Nat)(es:List (List PV))(s:St)(J:St->Prop)(ps:List PV)(e:List PV):Prop := ps.length=P.cellsOf ty/\P.cellsOf ty≠0/\j+ps.length<=e.length/\Am d s.regs=some (.row T sz es)/\s.get a=.ptr d i j/\J { s with regs:=Bs d (.row T sz (es.set i (e.take j++ps++e.drop (j+ps.length)))) s.regs }
def jf{c:List PV}:dL P ty o d i j T sz es ⟨t,r⟩ J ps c=(ps.length=P.cellsOf ty/\P.cellsOf ty≠0/\j+ps.length<=c.length/\Am d r=some (.row T sz es)/\(St.mk t r).get o=.ptr d i j/\J ⟨t,Bs d (.row T sz (es.set i (c.take j++ps++c.drop (j+ps.length)))) r⟩):=(rfl)
def dM(P:Program)(ty:TypeId)(a:Operand)(d i j:Nat)(T:TypeId)(sz:Nat)(es:List (List PV))(s:St)(J:St->Prop)(ps:List PV):Prop:=FK (es[i]?) (dL P ty a d i j T sz es s J ps)
def jg:dM P ty o d i j T sz es ⟨t,r⟩ J ps=FK (es[i]?) (dL P ty o d i j T sz es ⟨t,r⟩ J ps):=(rfl)
def dN(P:Program)(ty:TypeId)(a:Operand)(d i j:Nat)(T:TypeId)(sz:Nat)(es:List (List PV))(s:St)(J:St->Prop)(xs:List L):Prop:=Bq (Bg L.pure? xs) (dM P ty a d i j T sz es s J)
def jh{xs:List L}:dN P ty o d i j T sz es ⟨t,r⟩ J xs=Bq (Bg L.pure? xs) (dM P ty o d i j T sz es ⟨t,r⟩ J):=(rfl)
def wa(P:Program)(ty:TypeId)(a x:Operand)(d i j:Nat)(T:TypeId)(sz:Nat)(es:List (List PV))(J:St->Prop)(s:St):Prop:=Bq (B3 (s.get x)) (dN P ty a d i j T sz es s J)
def Jph{q:Operand}:wa P ty o q d i j T sz es J ⟨t,r⟩=Bq (B3 ((St.mk t r).get q)) (dN P ty o d i j T sz es ⟨t,r⟩ J):=(rfl)
def dO(P:Program)(ty:TypeId)(d i j:Nat)(T:TypeId)(sz:Nat)(f:Bool)(es:List (List L))(s:St)(J:St->Prop)(xs:List L)(e:List L):Prop := xs.length=P.cellsOf ty/\P.cellsOf ty≠0/\j+xs.length<=e.length/\J { s with regs:=Bs d (.lrow T sz f (es.set i (e.take j++xs++e.drop (j+xs.length)))) s.regs }
def wb(P:Program)(ty:TypeId)(d i j:Nat)(T:TypeId)(sz:Nat)(f:Bool)(es:List (List L))(s:St)(J:St->Prop)(xs:List L):Prop:=FK (es[i]?) (dO P ty d i j T sz f es s J xs)
def q8{xs:List L}{ll:List (List L)}:wb P ty d i j T sz fu ll ⟨t,r⟩ J xs=FK (ll[i]?) (dO P ty d i j T sz fu ll ⟨t,r⟩ J xs):=(rfl)
def ji{xs c:List L}{ll:List (List L)}:dO P ty d i j T sz fu ll ⟨t,r⟩ J xs c=(xs.length=P.cellsOf ty/\P.cellsOf ty≠0/\j+xs.length<=c.length/\J ⟨t,Bs d (.lrow T sz fu (ll.set i (c.take j++xs++c.drop (j+xs.length)))) r⟩):=(rfl)
def nn(P:Program)(ty:TypeId)(s:St)(a x:Operand)(d i j:Nat)(J:St->Prop)(q:Option DG):Prop:=match q with|some (.var T cs)=>Bq (B3 (s.get x)) (wZ P ty d i j T cs s J)|some (.row T sz es)=>wa P ty a x d i j T sz es J (s.freezeOps [x])|some (.lrow T sz f es)=>Bq (B3 (s.get x)) (wb P ty d i j T sz f es s J)|some (.obj _)=>False|none=>False
def E_(P:Program)(ty:TypeId)(s:St)(a x:Operand)(J:St->Prop)(la:L):Prop:=match la with|.ptr d i j=>nn P ty s a x d i j J (Am d s.regs)|_=>False
def Jon{q:Operand}:Nv P ty ⟨t,r⟩ o q J=E_ P ty ⟨t,r⟩ o q J ((St.mk t r).get o):=by
 unfold Nv E_ nn wa dN dM dL wZ wb dO Bq FK;apply pe;cases(St.mk t r).get o with
 |ptr d i j =>
  simp only;cases Am d r with
  |none=>exact Iff.rfl
  |some g =>
   cases g with
   |var T cs=>exact Iff.rfl
   |row T sz es=>exact Iff.rfl
   |lrow T sz f es=>exact Iff.rfl
   |obj o=>exact Iff.rfl
 |_=>exact Iff.rfl
def q9{q:Operand}:E_ P ty ⟨t,r⟩ o q J (.ptr d i j)=nn P ty ⟨t,r⟩ o q d i j J (Am d r):=(rfl)
def Jgl{q:Operand}:nn P ty ⟨t,r⟩ o q d i j J (some (.var T ls))=Bq (B3 ((St.mk t r).get q)) (wZ P ty d i j T ls ⟨t,r⟩ J):=(rfl)
def Jf7{q:Operand}:nn P ty ⟨t,r⟩ o q d i j J (some (.row T sz es))=wa P ty o q d i j T sz es J (St.freezeOps ⟨t,r⟩ [q]):=(rfl)
def Kai{q:Operand}{ll:List (List L)}:nn P ty ⟨t,r⟩ o q d i j J (some (.lrow T sz fu ll))=Bq (B3 ((St.mk t r).get q)) (wb P ty d i j T sz fu ll ⟨t,r⟩ J):=(rfl)
def jj(xs:List Operand):L->St|.own d _ _=>if d<1000 then(s.freeze d).freezeOps xs else s.freezeOps xs|.mref d=>if d<1000 then(s.freeze d).freezeOps xs else s.freezeOps xs|_=>s.freezeOps xs
def Jhj:St.freezeOps ⟨t,r⟩ []=⟨t,r⟩:=(rfl)
def Jcr:St.freezeOps ⟨t,r⟩ (o::os)=jj ⟨t,r⟩ os ((St.mk t r).get o):=by
 simp only[St.freezeOps,jj];cases(St.mk t r).get o<;>rfl
def Jp2:jj ⟨t,r⟩ os (.p v)=St.freezeOps ⟨t,r⟩ os:=(rfl)
def Jfm:jj ⟨t,r⟩ os (.ptr d i j)=St.freezeOps ⟨t,r⟩ os:=(rfl)
def Jar:jj ⟨t,r⟩ os (.mref d)=if d<1000 then(St.freeze d ⟨t,r⟩).freezeOps os else St.freezeOps ⟨t,r⟩ os:=(rfl)
def Jjb:jj ⟨t,r⟩ os (.fn g GO)=St.freezeOps ⟨t,r⟩ os:=(rfl)
def Jhk{o m:Nat}:jj ⟨t,r⟩ os (.own d o m)=if d<1000 then(St.freeze d ⟨t,r⟩).freezeOps os else St.freezeOps ⟨t,r⟩ os:=(rfl)
def Jit:St.freeze d ⟨t,r⟩=Dx d (SX (Am d r)) ⟨t,r⟩:=(rfl)
def Jcj:SX (some (.row T sz es))=some (.rw es):=(rfl)
def Jeo:SX (some (.obj (.mp m)))=some (.mp m):=(rfl)
def Jm4{z:Fz}:Dx d (some z) ⟨t,r⟩=⟨t.map (L.freeze d z),Cp d z r⟩:=(rfl)
def F_(X:Cx)(g:FuncId)(ps:List PV)(f:Operand)(args:List Operand)(dst:Option Tmp)(J:St->Prop)(s:St):Prop:=s.get f=.p (.clo g ps)/\Ll X g (args.map s.get++[.eptr ps]) s dst J
def fT(X:Cx)(s:St)(f:Operand)(args:List Operand)(dst:Option Tmp)(J:St->Prop)(l:L):Prop:=match l with|.fn g GO=>Jm X (X.kind g) g GO args s dst J|.p (.clo g ps)=>X.kind g=0/\F_ X g ps f args dst J (s.freezeOps args)|_=>False
def jk{f:Operand}:wA X ⟨t,r⟩ f args dst J=fT X ⟨t,r⟩ f args dst J ((St.mk t r).get f):=(rfl)
def Jn9{f:Operand}:fT X ⟨t,r⟩ f args dst J (.fn g GO)=Jm X (X.kind g) g GO args ⟨t,r⟩ dst J:=(rfl)
def G_(X:Cx)(g:FuncId)(GO:List Nat)(args:List Operand)(dst:Option Tmp)(J:St->Prop)(s:St):Prop:=Ll X g (args.map s.get++GO.map fun d=>L.ptr d 0 0) s dst J
def Jiw:Jm X 0 g GO args ⟨t,r⟩ dst J=G_ X g GO args dst J (St.freezeOps ⟨t,r⟩ args):=(rfl)
def Jlx:Jm X 1 g GO args ⟨t,r⟩ dst J=G_ X g GO args dst J ⟨t,r⟩:=(rfl)
def Jji:Jm X 3 g [] args ⟨t,r⟩ dst J=zh X g (args.map (St.mk t r).get) ⟨t,r⟩ dst J:=by
 show([]=[]/\_)=_;simp only[true_and]
def Jim:Jm X 2 g [] args ⟨t,r⟩ dst J=iB X g (args.map (St.mk t r).get) ⟨t,r⟩ dst J:=by
 show([]=[]/\_)=_;simp only[true_and]
def Joq:G_ X g GO args dst J ⟨t,r⟩=Ll X g (args.map (St.mk t r).get++GO.map fun d=>L.ptr d 0 0) ⟨t,r⟩ dst J:=(rfl)
def Jm7{ls:List L}:Ll X g ls ⟨t,r⟩ dst J=N2 X g ls ⟨t,r⟩ (Ra (Dj [] (Rs ls)) r) dst J:=(rfl)
def L.map_none(l:L)(h:l.ids=[])(f:Nat->Option Nat):l.map f=l:=by
 cases l<;>simp[L.ids]at h<;>first|rfl|(subst h;rfl)
def Q6(dst:Option Tmp)(K:St->Prop)(s:St)(l:L)(DU:BX):Prop:=Ta [] dst K s l DU
def Vj{ls:List L}{x:Nat×Nat}:N2 X g ls ⟨t,r⟩ (x::ρ) dst J=Al X g (ls.map (L.map (EB (x::ρ)))) (Cz (x::ρ) r) (Ta (x::ρ) dst J ⟨t,r⟩):=(rfl)
def Sd:∀(r:BX),Cz [] r=[]
 |[]=>rfl
 |(d,q)::r=>by simp[Cz,EB,Sd r]
def Zb{ls:List L}:N2 X g ls ⟨t,r⟩ [] dst J=Al X g (ls.map (L.map (EB []))) [] (Q6 dst J ⟨t,r⟩):=by
 unfold N2 Q6;rw[Sd]
def Py:∀(l:L),l.map (C5 [])=l:=by
 have h:∀ds,Bg (C5 []) ds=some ds:=by
  intro ds
  induction ds with
  |nil=>rfl
  |cons d ds ih=>simp only[Bg,ih];simp[C5]
 intro l;cases l with
 |ptr d i j=>rfl
 |own d i j=>rfl
 |mref d=>rfl
 |fn g ds=>simp[L.map,h,pS]
 |cfn g ds=>simp[L.map,h,zc]
 |_=>rfl
def Zi(q:DG):q.map (C5 [])=q:=by
 cases q with
 |var T cs=>simp only[DG.map];congr 1;exact(UM fun l _=>Py l).trans (List.map_id _)
 |lrow T sz f es =>
  simp only[DG.map];congr 1;refine(UM fun e _=>?_).trans (List.map_id _);exact(UM fun l _=>Py l).trans (List.map_id _)
 |_=>rfl
def Qa:∀(r:BX),C1 [] none [] [] r=r
 |[]=>rfl
 |(d,q)::r=>by simp only[C1,N7,EB,if_true,Zi,Qa r]
def Jk2:s.after [] none []=s:=by
 obtain⟨t,r⟩:=s;simp only[St.after,Da,Gc,List.filter_nil,SR,List.nil_append,Qa];congr 1;exact(UM fun l _=>Py l).trans (List.map_id _)
def rA(_:Nat):Option Nat:=none
def Wm{l:L}:Q6 dst J ⟨t,r⟩ l []=J ((St.mk t r).put dst (l.map rA)):=by
 unfold Q6 Ta;have e:Ek dst []=none:=rfl;rw[e,Jk2];have e2:C6 [] none=rA:=by funext n;rfl
 rw[e2]
def Sk{l:L}{x:Nat×DG}:Q6 dst J ⟨t,r⟩ l (x::DU)=Ta [] dst J ⟨t,r⟩ l (x::DU):=(rfl)
def Jo7{l:L}:Ta ρ dst J ⟨t,r⟩ l DU=J ((St.after ρ (Ek dst DU) DU ⟨t,r⟩).put dst (l.map (C6 ρ (Ek dst DU)))):=(rfl)
def H_(bad:List Nat)(t:List L):List L:=match bad with|[]=>t|_=>t.map (L.map (C5 bad))
def Vs:H_ [] t=t:=(rfl)
def Sr{b:Nat}{bs:List Nat}:H_ (b::bs) t=t.map (L.map (C5 (b::bs))):=(rfl)
def Xi(bad:List Nat)(q:DG):DG:=match bad with|[]=>q|_=>q.map (C5 bad)
def Xr:Xi [] q=q:=(rfl)
def Ut{b:Nat}{bs:List Nat}:Xi (b::bs) q=q.map (C5 (b::bs)):=(rfl)
def Jiq:Xi bad q=q.map (C5 bad):=by
 cases bad with
 |nil=>exact(Zi q).symm
 |cons=>rfl
def Hl:Ren->List Nat|[]=>[]|(d,n)::ρ=>if 500000<=n then d::Hl ρ else Hl ρ
def Oj:∀(ρ:Ren),(ρ.filter fun x=>decide (500000<=x.2)).map (·.1)=Hl ρ
 |[]=>rfl
 |(d,n)::ρ=>by
  simp only[Hl,List.filter_cons,AF];split<;>simp[Oj ρ]
def Uj:Da ρ none=Hl ρ:=Oj ρ
def Uq{x:Nat}:Da ρ (some x)=x::Hl ρ:=by simp only[Da,Oj]
def Vb:Hl []=[]:=(rfl)
def Sp{a b:Nat}:Hl ((a,b)::ρ)=if 500000<=b then a::Hl ρ else Hl ρ:=(rfl)
def Jnk:St.after ρ nw DU ⟨t,r⟩=⟨H_ (Da ρ nw) t,Gc ρ nw DU++C1 ρ nw (Da ρ nw) DU r⟩:=by
 simp only[St.after];congr 1;cases Da ρ nw with
 |nil=>exact(UM fun l _=>Py l).trans (List.map_id _)
 |cons=>rfl
def jl(ρ:Ren)(d:Nat):Option DG->BX|some r=>[(d,r.map (C6 ρ (some d)))]|none=>[]
def Jcd:Gc ρ none DU=[]:=(rfl)
def Ja6{x:Nat}:Gc ρ (some x) DU=jl ρ x (Am 900 DU):=by
 simp only[Gc,jl];cases Am 900 DU<;>rfl
def jm{x:Nat}:jl ρ x (some q)=[(x,q.map (C6 ρ (some x)))]:=(rfl)
def bK(e:Nat)(ρ:Ren)(nw:Option Nat)(BR:BX):Option DG->BX|some r=>(e,r.map (C6 ρ nw))::BR|none=>BR
def dP(e:Nat)(q:DG)(ρ:Ren)(nw:Option Nat)(bad:List Nat)(DU BR:BX):Option Nat->BX|some n=>bK e ρ nw BR (Am n DU)|none=>(e,Xi bad q)::BR
def Jej:C1 ρ nw bad DU []=[]:=(rfl)
def Ja2{e:Nat}:C1 ρ nw bad DU ((e,q)::r)=if N7 nw e=true then dP e q ρ nw bad DU (C1 ρ nw bad DU r) (EB ρ e)else C1 ρ nw bad DU r:=by
 simp only[C1,dP,bK,Jiq];split
 ·cases EB ρ e with
  |none=>rfl
  |some n=>simp only;cases Am n DU<;>rfl
 ·rfl
def Zw{e n:Nat}:dP e q ρ nw bad DU BR (some n)=bK e ρ nw BR (Am n DU):=(rfl)
def W6{e:Nat}:dP e q ρ nw bad DU BR none=(e,Xi bad q)::BR:=(rfl)
def Zd{e:Nat}:bK e ρ nw BR (some q)=(e,q.map (C6 ρ nw))::BR:=(rfl)
def Yq{e:Nat}:bK e ρ nw BR none=BR:=(rfl)
def Sw{e:Nat}:N7 none e=true:=(rfl)
def Sy{x e:Nat}:N7 (some x) e=decide (e≠x):=(rfl)
def bL(dst:Option Tmp):Bool->Option Nat
 |true=>some (match dst with|some d=>if d<900 then d else 990|none=>990)
 |false=>none
def Jpa:Ek dst DU=bL dst (findKey 900 DU):=by
 simp only[Ek,bL];cases findKey 900 DU<;>rfl
def Jj7:bL dst false=none:=(rfl)
def Jin{x:Tmp}:bL (some x) true=some (if x<900 then x else 990):=(rfl)
def Jfp:bL none true=some 990:=(rfl)
def S1{e:Nat}:findKey e []=false:=(rfl)
def Qc{e a:Nat}:findKey e ((a,q)::r)=if a=e then true else findKey e r:=(rfl)
def Jix{e:Nat}:EB [] e=none:=(rfl)
def Jhb{a b e:Nat}:EB ((a,b)::ρ) e=if a=e then some b else EB ρ e:=(rfl)
def Jgi{a b e:Nat}:NH ((a,b)::ρ) e=if b=e then some a else NH ρ e:=(rfl)
def I_(x:Nat):Option Nat->Option Nat|some e=>if e=x then none else some e|none=>none
def Xu{e:Nat}:C6 ρ none e=NH ρ e:=(rfl)
def Yu{x e:Nat}:C6 ρ (some x) e=if e=900 then some x else I_ x (NH ρ e):=by
 simp only[C6,I_];cases NH ρ e<;>rfl
def Vp{x e:Nat}:I_ x (some e)=if e=x then none else some e:=(rfl)
def Xw{b:Nat}{bs:List Nat}{e:Nat}:C5 (b::bs) e=if e=b then none else C5 bs e:=by
 simp only[C5,List.contains_cons,WG,AK];by_cases h:e=b<;>simp[h]
def Jcs{e:Nat}:C5 [] e=some e:=(rfl)
def Jml{a b e:Nat}:Fb a b e=if e=a then some b else if e=b then none else some e:=(rfl)
def Jef:Cz ρ []=[]:=(rfl)
def wc(ρ:Ren)(q:DG)(BR:BX):Option Nat->BX|some n=>(n,q.map (EB ρ))::BR|none=>BR
def Jcb{a:Nat}:Cz ρ ((a,q)::r)=wc ρ q (Cz ρ r) (EB ρ a):=by
 simp only[Cz,wc];cases EB ρ a<;>rfl
def Jbt{e:Nat}:wc ρ q BR (some e)=(e,q.map (EB ρ))::BR:=(rfl)
def Jao:wc ρ q BR none=BR:=(rfl)
def Ji0{f:Nat->Option Nat}:DG.map f (.var T ls)=.var T (ls.map (L.map f)):=(rfl)
def Jiu{f:Nat->Option Nat}:DG.map f (.row T sz es)=.row T sz es:=(rfl)
def Jew{f:Nat->Option Nat}{ll:List (List L)}:DG.map f (.lrow T sz fu ll)=.lrow T sz fu (ll.map fun e=>e.map (L.map f)):=(rfl)
def Jlt{f:Nat->Option Nat}{o:UP}:DG.map f (.obj o)=.obj o:=(rfl)
def rB{f:Nat->Option Nat}:L.map f (.p v)=.p v:=(rfl)
def Jn0{f:Nat->Option Nat}:L.map f (.ptr d i j)=pQ (f d) i j:=(rfl)
def Jmy{f:Nat->Option Nat}{o m:Nat}:L.map f (.own d o m)=nf (f d) o m:=(rfl)
def Kd8{f:Nat->Option Nat}:L.map f (.mref d)=pR (f d):=(rfl)
def jn{f:Nat->Option Nat}:L.map f (.fn g GO)=pS g (Bg f GO):=(rfl)
def Jjs{f:Nat->Option Nat}:L.map f (.eptr cs)=.eptr cs:=(rfl)
def Joi{f:Nat->Option Nat}{l:Nat}:L.map f (.yld l)=.yld l:=(rfl)
def Jnp{f:Nat->Option Nat}:L.map f (.tup xs)=.tup xs:=(rfl)
def Jmf{f:Nat->Option Nat}:L.map f .junk=.junk:=(rfl)
def jo{e:Nat}:pQ (some e) i j=.ptr e i j:=(rfl)
def jq{e o m:Nat}:nf (some e) o m=.own e o m:=(rfl)
def Kgn{e:Nat}:pR (some e)=.mref e:=(rfl)
def rC:pS g (some GO)=.fn g GO:=(rfl)
def jr{o m:Nat}:nf none o m=.junk:=(rfl)
def Jlm{ls:List L}:Rs ls=ls.flatMap L.ids:=(rfl)
def Xo:Dj Np []=[]:=(rfl)
def Vd{a:Nat}{ds:List Nat}:Dj Np (a::ds)=if Np.contains a=true then Dj Np ds else a::Dj (a::Np) ds:=(rfl)
def X7:Ra [] r=[]:=(rfl)
def V9{a:Nat}{ds:List Nat}:Ra (a::ds) r=P0 (a::ds) (Ve (a::ds) (Nr (a::ds) r) r):=(rfl)
def Jf1{I:List Nat}:P0 D I=Gw 0 D++Ff D.length I:=(rfl)
def Uh{m:Nat}:Gw m []=[]:=(rfl)
def Sx{m a:Nat}{ds:List Nat}:Gw m (a::ds)=if m<400000 then(a,1000+m)::Gw (m+1) ds else []:=(rfl)
def Vh{m:Nat}:Ff m []=[]:=(rfl)
def Sm{m a:Nat}{ds:List Nat}:Ff m (a::ds)=if m<400000 then(a,if 1000<=a/\a<500000 then 1000+m else 500000+m)::Ff (m+1) ds else []:=(rfl)
def Ji8:Nr D r=Dj D (F3 D r):=(rfl)
def Jlp{I:List Nat}:Ve D I r=I++Dj (D++I) (F3 I r):=(rfl)
def Wa:F3 GO []=[]:=(rfl)
def Su{a:Nat}:F3 GO ((a,q)::r)=if GO.contains a=true then q.ids++F3 GO r else F3 GO r:=(rfl)
def Jgx:Mk d ⟨t,r⟩ J=(d<1000/\J ((St.newReg d (.obj (.mp [])) ⟨t,r⟩).put (some d) (.mref d))):=(rfl)
def J_(d:Nat)(o:Option TypeDesc)(s:St)(l:L)(J:St->Prop):Prop:=match o,l with|some .string,.p (.str u)=>J ((s.newReg d (.obj (.sit u 0))).put (some d) (.ptr d 0 0))|some (.map _ _),.p .nmap=>J ((s.newReg d (.obj (.mit [] []))).put (some d) (.ptr d 0 0))|some (.map _ _),.p (.mp es)=>J ((s.newReg d (.obj (.mit es []))).put (some d) (.ptr d 0 0))|_,_=>False
def Jpu:Wr P d ty ⟨t,r⟩ o J=(d<1000/\J_ d (P.underlying ty) ⟨t,r⟩ ((St.mk t r).get o) J):=(rfl)
def Ji5:J_ d (some .string) ⟨t,r⟩ (.p (.str x)) J=J ((St.newReg d (.obj (.sit x 0)) ⟨t,r⟩).put (some d) (.ptr d 0 0)):=(rfl)
def Jop{k1 e1:TypeId}:J_ d (some (.map k1 e1)) ⟨t,r⟩ (.p (.mp m)) J=J ((St.newReg d (.obj (.mit m [])) ⟨t,r⟩).put (some d) (.ptr d 0 0)):=(rfl)
def rD(b:Bool)(N:St->L->Prop)(l:L):Prop:=
 match l with
 |.ptr d 0 0=>match Am d s.regs,b with
  |some (.obj (.sit u pos)),true=>(pos<u.length->N { s with regs:=Bs d (.obj (.sit u (pos+(Utf8.decode ⟨⟨u⟩⟩ pos).2))) s.regs } (.tup [.bool true,.int .i64 pos,.int .i32 (Utf8.decode ⟨⟨u⟩⟩ pos).1])) /\
    (¬pos<u.length->N s (.tup [.bool false]))
  |some (.obj (.mit es seen)),false=>(∀i p,es[i]?=some p->i∉seen->N { s with regs:=Bs d (.obj (.mit es (seen++[i]))) s.regs } (.tup [.bool true,p.1,p.2])) /\
    ((∀i,i<es.length->i∈seen)->N s (.tup [.bool false]))
  |_,_=>False
 |_=>False
def K_(d:Nat)(N:St->L->Prop):Option DG->Prop|some (.obj (.sit u pos))=>if pos<u.length then N { s with regs:=Bs d (.obj (.sit u (pos+(Utf8.decode ⟨⟨u⟩⟩ pos).2))) s.regs } (.tup [.bool true,.int .i64 pos,.int .i32 (Utf8.decode ⟨⟨u⟩⟩ pos).1])else N s (.tup [.bool false])|_=>False
def L_(d:Nat)(N:St->L->Prop):Option DG->Prop
 |some (.obj (.mit es seen))=>(∀i p,es[i]?=some p->i∉seen->N { s with regs:=Bs d (.obj (.mit es (seen++[i]))) s.regs } (.tup [.bool true,p.1,p.2])) /\
    ((∀i,i<es.length->i∈seen)->N s (.tup [.bool false]))
 |_=>False
variable {N:St->L->Prop}
def js{b:Bool}:Wv ⟨t,r⟩ o b N=rD ⟨t,r⟩ b N ((St.mk t r).get o):=(rfl)
def Jnx:rD ⟨t,r⟩ true N (.ptr d 0 0)=K_ ⟨t,r⟩ d N (Am d r):=by
 simp only[rD,K_];cases Am d r with
 |none=>rfl
 |some g =>
  cases g with
  |obj o =>
   cases o with
   |sit u pos=>apply pe;by_cases h:pos<u.length<;>simp[h]
   |_=>rfl
  |_=>rfl
def Joc:rD ⟨t,r⟩ false N (.ptr d 0 0)=L_ ⟨t,r⟩ d N (Am d r):=by
 simp only[rD,L_];cases Am d r with
 |none=>rfl
 |some g =>
  cases g with
  |obj o=>cases o<;>rfl
  |_=>rfl
def rE{pos:Nat}:K_ ⟨t,r⟩ d N (some (.obj (.sit x pos)))=if pos<x.length then N ⟨t,Bs d (.obj (.sit x (pos+(Utf8.decode ⟨⟨x⟩⟩ pos).2))) r⟩ (.tup [.bool true,.int .i64 pos,.int .i32 (Utf8.decode ⟨⟨x⟩⟩ pos).1])else N ⟨t,r⟩ (.tup [.bool false]):=(rfl)
theorem
    rF{seen:List Nat}:L_ ⟨t,r⟩ d N (some (.obj (.mit m seen)))=((∀i p,m[i]?=some p->i∉seen->N ⟨t,Bs d (.obj (.mit m (seen++[i]))) r⟩ (.tup [.bool true,p.1,p.2])) /\
    ((∀i,i<m.length->i∈seen)->N ⟨t,r⟩ (.tup [.bool false]))):=(rfl)
def enT(r:BX)(K:L->Prop)(l:L):Prop:=
 match l with
 |.ptr d 0 0=>match Am d r with
  |some (.obj (.mit es seen))=>∃i,seen.getLast?=some i/\∃p,es[i]?=some p/\K (.tup [p.1,p.2])
  |_=>False
 |_=>False
def M_(K:L->Prop):Option DG->Prop|some (.obj (.mit es seen))=>∃i,seen.getLast?=some i/\∃p,es[i]?=some p/\K (.tup [p.1,p.2])|_=>False
def Jpv:Ri ⟨t,r⟩ o K=enT r K ((St.mk t r).get o):=(rfl)
def rG:enT r K (.ptr d 0 0)=M_ K (Am d r):=(rfl)
def rH{seen:List Nat}{q:Nat}:M_ K (some (.obj (.mit m (seen++[q])))) = ∃p,m[q]?=some p/\K (.tup [p.1,p.2]):=by
 apply pe;simp[M_]
def jt(P:Program)(d:Nat)(s:St)(J:St->Prop)(CN:List (PV×PV)):Prop:=J { s with regs:=Bs d (.obj (.mp CN)) s.regs }
def rI:jt P d ⟨t,r⟩ J m=J ⟨t,Bs d (.obj (.mp m)) r⟩:=(rfl)
def we(P:Program)(d:Nat)(o:Option (TypeId×TypeId))(lk lv:L)(s:St)(J:St->Prop)(q:Option DG):Prop:=match q,o,lk,lv with|some (.obj (.mp es)),some (kt,_),.p kp,.p vp=>De P kt kp=true/\Bq (LO kp vp es) (jt P d s J)|_,_,_,_=>False
def wg(P:Program)(ty:TypeId)(k v:Operand)(J:St->Prop)(s:St)(l:L):Prop:=match l with|.mref d=>we P d (MG P ty) (s.get k) (s.get v) s J (Am d s.regs)|_=>False
def N_(P:Program)(ty:TypeId)(m k v:Operand)(J:St->Prop)(s:St):Prop:=wg P ty k v J s (s.get m)
def X1{o1 o3:Operand}:Dq P ty ⟨t,r⟩ o1 o2 o3 J=N_ P ty o1 o2 o3 J (St.freezeOps ⟨t,r⟩ [o3]):=by
 unfold Dq N_ wg we Bq jt;generalize St.freezeOps ⟨t,r⟩ [o3]=s;cases s.get o1<;>rfl
def rJ{o1 o3:Operand}:N_ P ty o1 o2 o3 J ⟨t,r⟩=wg P ty o2 o3 J ⟨t,r⟩ ((St.mk t r).get o1):=(rfl)
def rK{o3:Operand}:wg P ty o2 o3 J ⟨t,r⟩ (.mref d)=we P d (MG P ty) ((St.mk t r).get o2) ((St.mk t r).get o3) ⟨t,r⟩ J (Am d r):=(rfl)
def rL{et:TypeId}{w:PV}:we P d (some (kt,et)) (.p v) (.p w) ⟨t,r⟩ J (some (.obj (.mp m)))=(De P kt v=true/\Bq (LO v w m) (jt P d ⟨t,r⟩ J)):=(rfl)
def meV(d:Nat)(m:List (PV×PV))(s:St)(N:St->L->Prop)(q:Option (Option (Nat×PV))):Prop:=match q with|some (some (j,x))=>∀n:Int,N { s with regs:=Bs d (.obj (.mpe m j n)) s.regs } (.tup [x,.int .i64 n])|_=>False
def esV(d:Nat)(m:List (PV×PV))(j:Nat)(v:PV)(s:St)(J:St->Prop)(q:Option (PV×PV)):Prop:=match q with
 |some q=>J { s with regs:=Bs d (.obj (.mp (m.set j (q.1,v)))) s.regs }
 |none=>False
def wh(P:Program)(d:Nat)(o:Option (TypeId×TypeId))(lk:L)(s:St)(J:St->Prop)(q:Option DG):Prop:=match q,o,lk with|some (.obj (.mp es)),some (kt,_),.p kp=>De P kt kp=true/\Bq (WR kp es) (jt P d s J)|_,_,_=>False
def O_(P:Program)(ty:TypeId)(k:Operand)(J:St->Prop)(s:St)(l:L):Prop:=match l with|.mref d=>wh P d (MG P ty) (s.get k) s J (Am d s.regs)|_=>False
def Jj9{o1:Operand}:Kq P ty ⟨t,r⟩ o1 o2 J=O_ P ty o2 J ⟨t,r⟩ ((St.mk t r).get o1):=by
 unfold Kq O_ wh Bq jt;cases(St.mk t r).get o1<;>rfl
def rM:O_ P ty o2 J ⟨t,r⟩ (.mref d)=wh P d (MG P ty) ((St.mk t r).get o2) ⟨t,r⟩ J (Am d r):=(rfl)
def rN{et:TypeId}:wh P d (some (kt,et)) (.p v) ⟨t,r⟩ J (some (.obj (.mp m)))=(De P kt v=true/\Bq (WR v m) (jt P d ⟨t,r⟩ J)):=(rfl)
def np(ok:Bool)(K:L->Prop)(z:PV)(q:Option (Nat×PV)):Prop:=
 K
  (match q,ok with
  |some (_,v),true=>.tup [v,.bool true]
  |none,true=>.tup [z,.bool false]
  |some (_,v),false=>.p v
  |none,false=>.p z)
def wi(oz:Option PV)(ok:Bool)(K:L->Prop)(q:Option (Nat×PV)):Prop:=∃z,oz=some z/\np ok K z q
def P_(P:Program)(om:Option (TypeId×TypeId))(oe:Option (List (PV×PV)))(ix:L)(ok:Bool)(K:L->Prop):Prop:=match om,oe,ix with|some (kt,et),some es,.p k=>De P kt k=true/\Bq (Cl k es 0) (wi (E5 P et) ok K)|_,_,_=>False
def Jjo{o1:Operand}{b:Bool}:RC P r ⟨t,r⟩ (.lookup ty o1 o2 b) K=P_ P (MG P ty) (Tz r ((St.mk t r).get o1)) ((St.mk t r).get o2) b K:=by
 apply pe;show(∃l,Yc P r ty ((St.mk t r).get o1) ((St.mk t r).get o2) b l/\K l)↔_;unfold Yc P_;generalize MG P ty=a;generalize Tz r ((St.mk t r).get o1)=c;generalize(St.mk t r).get o2=q;cases a with
 |none=>simp
 |some a =>
  cases c with
  |none=>simp
  |some c =>
   cases q<;>simp only[false_and,exists_false,Bq,wi,np];constructor
   ·rintro⟨l,⟨h1,q,h2,z,h3,rfl⟩,hK⟩;exact⟨h1,q,h2,z,h3,hK⟩
   ·rintro⟨h1,q,h2,z,h3,hK⟩;exact⟨_,⟨h1,q,h2,z,h3,rfl⟩,hK⟩
def rO{et:TypeId}{b:Bool}:P_ P (some (kt,et)) (some m) (.p v) b K=(De P kt v=true/\Bq (Cl v m 0) (wi (E5 P et) b K)):=(rfl)
def rP{b:Bool}{q:Option (Nat×PV)}:wi (some z) b K q=np b K z q:=pe ⟨fun⟨_,h,hc⟩=>by cases h;exact hc,fun h=>⟨z,rfl,h⟩⟩
def Jk7{i:Nat}:np true K z (some (i,v))=K (.tup [v,.bool true]):=(rfl)
def Jjh:np true K z none=K (.tup [z,.bool false]):=(rfl)
def Kev{i:Nat}:np false K z (some (i,v))=K (.p v):=(rfl)
def Jan:Tz r (.p (.mp m))=some m:=(rfl)
def rQ:Option DG->Option (List (PV×PV))|some (.obj (.mp es))=>some es|_=>none
def J5m:Tz r (.mref d)=rQ (Am d r):=(rfl)
def ju:rQ (some (.obj (.mp m)))=some m:=(rfl)
def Q_(o:Option TypeDesc)(v:PV):Bool:=match o with|some d=>OC d v|none=>false
def Jgp:De P kt v=Q_ (P.underlying kt) v:=(rfl)
def Jcu{q q':IntKind}{n:Int}:Q_ (some (.int q)) (.int q' n)=(q==q'):=(rfl)
def Kad:Q_ (some .string) (.str x)=true:=(rfl)
def rR{k:IntKind}:(∃d,some (TypeDesc.int k)=some d/\∀ms,¬d=.interface ms)=True:=AE ⟨_,rfl,fun _ h=>by cases h⟩
def rS{T:TypeId}{q:IntKind}{n:Int}:M8 T (.p (.int q n))=.ifi T q n:=(rfl)
def Jok:RC P r ⟨t,r⟩ (.makeInterface ty o) K=((∃d,P.underlying ty=some d/\∀ms,d≠.interface ms)/\K (.p (M8 ty ((St.mk t r).get o)))):=by
 apply pe;constructor
 ·rintro⟨l,⟨h,rfl⟩,hK⟩;exact⟨h,hK⟩
 ·rintro⟨h,hK⟩;exact⟨_,⟨h,rfl⟩,hK⟩
def dQ(K:L->Prop)(l:L):Prop:=match l with|.p .snil=>K (.p .nptr)|.own d By n=>0<n/\K (.ptr d By 0)|_=>False
def rT:RC P r ⟨t,r⟩ (.call { callee:=.builtin .unsafeSliceData,args:=#[o],argTypes:=#[ty] }) K=dQ K ((St.mk t r).get o):=by
 apply pe;show(∃l,(match(St.mk t r).get o with|.p .snil=>l=.p .nptr|.own d By n=>0<n/\l=.ptr d By 0|_=>False)/\K l)↔_;unfold dQ;split
 ·constructor
  ·rintro⟨l,rfl,h⟩;exact h
  ·intro h;exact⟨_,rfl,h⟩
 ·constructor
  ·rintro⟨l,⟨h1,rfl⟩,h⟩;exact⟨h1,h⟩
  ·rintro⟨h1,h⟩;exact⟨_,⟨h1,rfl⟩,h⟩
 ·simp
def Jbs:dQ K (.p .snil)=K (.p .nptr):=(rfl)
def Jbh{o m:Nat}:dQ K (.own d o m)=(0<m/\K (.ptr d o 0)):=(rfl)
def Jav{t1:TypeId}:wO X t1 dst o2 J ⟨t,r⟩ (.p .nptr)=((∃k,(St.mk t r).get o2=.p (.int k 0))/\J ((St.mk t r).put dst (.p (.str [])))):=(rfl)
def Jbc{t1:TypeId}:wO X t1 dst o2 J ⟨t,r⟩ (.ptr d 0 0)=wN X.P (X.P.underlying t1) d ⟨t,r⟩ (DL dst J) ((St.mk t r).get o2):=(rfl)
def rU{o:Option TypeDesc}{v:Int}:wN P o d ⟨t,r⟩ N (.p (.int .i64 v))=wM P o d v ⟨t,r⟩ N (Am d r):=(rfl)
def usB(d:Nat)(n:Int)(s:St)(N:St->L->Prop)(bs:List UInt8):Prop:=n=bs.length/\bs≠[]/\bs.length<=9223372036854775807/\N (s.forget d) (.p (.str bs))
def rV{v:Int}:usB d v ⟨t,r⟩ N bs=(v=bs.length/\bs≠[]/\bs.length<=9223372036854775807/\N (St.forget d ⟨t,r⟩) (.p (.str bs))):=(rfl)
def rW{o:Option TypeDesc}{v:Int}:wM P o d v ⟨t,r⟩ N (some (.row T 1 es))=(o=some (.pointer T)/\P.cellsOf T=1/\Bq (Cw es) (usB d v ⟨t,r⟩ N)):=(rfl)
def wj(d:Nat)(e:TypeId)(sz:Nat)(s:St)(n:Nat)(J:St->Prop)(zs:List PV):Prop:=zs.length=sz/\J ((s.newReg d (.row e sz (List.replicate n zs))).put (some d) (.own d 0 n))
def rX:wj d e sz ⟨t,r⟩ n J zs=(zs.length=sz/\J ((St.newReg d (.row e sz (List.replicate n zs)) ⟨t,r⟩).put (some d) (.own d 0 n))):=(rfl)
def dR(b:Option Nat)(c wk:Int):Prop:=∃x,b=some x/\(x:Int)*c<=wk
def jv{x:Nat}{c wk:Int}:dR (some x) c wk=((x:Int)*c<=wk):=pe ⟨fun⟨_,h,hc⟩=>by cases h;exact hc,fun h=>⟨x,rfl,h⟩⟩
def R_(P:Program)(d:Nat)(o:Option (TypeId×Nat))(s:St)(l c:L)(J:St->Prop):Prop:=match o,l,c with|some (e,sz),.p (.int _ l),.p (.int _ c)=>0<=l/\l<=c/\dR (Bo P e) c 281474976710656/\c<=9223372036854775807/\Bq (Bu P e) (wj d e sz s l.toNat J)|_,_,_=>False
def Xy{l c:Operand}:Gl P d ty ⟨t,r⟩ l c J=(d<1000/\R_ P d (IW P ty) ⟨t,r⟩ ((St.mk t r).get l) ((St.mk t r).get c) J):=by
 unfold Gl R_ dR Bq wj;rfl
def rY:R_ P d (some (e,sz)) ⟨t,r⟩ (.p (.int k a)) (.p (.int k' b)) J=(0<=a/\a<=b/\dR (Bo P e) b 281474976710656/\b<=9223372036854775807/\Bq (Bu P e) (wj d e sz ⟨t,r⟩ a.toNat J)):=(rfl)
def dS(d:Nat)(e:TypeId)(sz n:Nat)(s:St)(J:St->Prop)(es:List (List PV)):Prop:=J ((s.newReg d (.row e sz es)).put (some d) (.own d 0 n))
def jx:dS d e sz n ⟨t,r⟩ J es=J ((St.newReg d (.row e sz es) ⟨t,r⟩).put (some d) (.own d 0 n)):=(rfl)
def wo(d:Nat)(e:TypeId)(sz n:Nat)(parts:List (Nat×Operand))(J:St->Prop)(s:St):Prop := Jt 0 (parts.map fun(i,x)=>(i,s.get x))=true/\Bq (Dn sz (parts.map fun(i,x)=>(i,s.get x))) (dS d e sz n s J)
def rZ{parts:List (Nat×Operand)}:wo d e sz n parts J ⟨t,r⟩=(Jt 0 (parts.map fun(i,x)=>(i,(St.mk t r).get x))=true/\Bq (Dn sz (parts.map fun(i,x)=>(i,(St.mk t r).get x))) (dS d e sz n ⟨t,r⟩ J)):=(rfl)
def S_(P:Program)(d:Nat)(o:Option (TypeId×Nat))(n:Nat)(s:St)(parts:List (Nat×Operand))(J:St->Prop):Prop:=match o with|some (e,sz)=>n*sz<=16777216/\RE (Bu P e) sz/\parts.length=n/\wo d e sz n parts J (s.freezeOps (parts.map (·.2)))|none=>False
def Wo{parts:List (Nat×Operand)}:Fo P d ty n ⟨t,r⟩ parts J=(d<1000/\n<=16777216/\S_ P d (IW P ty) n ⟨t,r⟩ parts J):=by
 unfold Fo S_ wo dS Bq RE;rfl
def T_(P:Program)(d:Nat)(o:Option (TypeId×Nat))(s:St)(l:L)(J:St->Prop):Prop:=match o with|some (e,1)=>RE (Bu P e) 1/\l.cellOK=true/\l.mentions d=false/\J ((s.newReg d (.lrow e 1 false [[l]])).put (some d) (.own d 0 1))|_=>False
def Kaf{y:Operand}:pW P d ty ⟨t,r⟩ [(0,y)] J=(d<1000/\T_ P d (IW P ty) ⟨t,r⟩ ((St.mk t r).get y) J):=by
 unfold pW T_ RE;apply pe;refine and_congr_right fun _=>⟨?_,fun h=>?_⟩
 ·rintro⟨e,h,h1,h2⟩;rw[h];exact⟨h1,h2⟩
 ·split at h
  ·rename_i e he;exact⟨e,he,h.1,h.2⟩
  ·exact h.elim
def ra{l:L}:T_ P d (some (e,1)) ⟨t,r⟩ l J=(RE (Bu P e) 1/\l.cellOK=true/\l.mentions d=false/\J ((St.newReg d (.lrow e 1 false [[l]]) ⟨t,r⟩).put (some d) (.own d 0 1))):=(rfl)
def rb{parts:List (Nat×Operand)}:S_ P d (some (e,sz)) n ⟨t,r⟩ parts J=(n*sz<=16777216/\RE (Bu P e) sz/\parts.length=n/\wo d e sz n parts J (St.freezeOps ⟨t,r⟩ (parts.map (·.2)))):=(rfl)
def Jo2:Jt n []=true:=(rfl)
def Jky{x:L}{BR:List (Nat×L)}:Jt n ((i,x)::BR)=(i==n&&Jt (n+1) BR):=(rfl)
def U_:Option (List L)->Option (List PV)|some xs=>Bg L.pure? xs|none=>none
def Jjw{xs:List L}:U_ (some xs)=Bg L.pure? xs:=(rfl)
def V_(sz:Nat)(o:Option (List PV))(os:Option (List (List PV))):Option (List (List PV)):=match o,os with|some ps,some es=>if ps.length=sz then some (ps::es)else none|_,_=>none
def Jiz:V_ sz (some ps) (some es)=if ps.length=sz then some (ps::es)else none:=(rfl)
def jz:Dn sz []=some []:=(rfl)
def Jof{x:L}{BR:List (Nat×L)}:Dn sz ((i,x)::BR)=V_ sz (U_ (B3 x)) (Dn sz BR):=by
 simp only[Dn,V_,U_];cases B3 x with
 |none=>rfl
 |some xs =>
  simp only;cases Bg L.pure? xs with
  |none=>rfl
  |some ps =>
   simp only;cases Dn sz BR with
   |none=>split<;>rfl
   |some es=>rfl
def wu(K:L->Prop)(es:List (List PV)):Prop:=K (.p (.sl es))
def rf:wu K es=K (.p (.sl es)):=(rfl)
def W_(P:Program)(s:St)(n:Nat)(parts:List (Nat×Operand))(K:L->Prop)(o:Option (TypeId×Nat)):Prop:=match o with|some (e,sz)=>n*sz<=16777216/\RE (Bu P e) sz/\parts.length=n/\Jt 0 (parts.map fun(i,x)=>(i,s.get x))=true/\Bq (Dn sz (parts.map fun(i,x)=>(i,s.get x))) (wu K)|none=>False
def j0{parts:List (Nat×Operand)}:bB P ⟨t,r⟩ ty n parts K=W_ P ⟨t,r⟩ n parts K (IW P ty):=by
 unfold bB W_ RE Bq wu;apply pe;constructor
 ·rintro⟨e,sz,h,h'⟩;rw[h];exact h'
 ·intro h;split at h
  ·rename_i e sz he;exact⟨e,sz,he,h⟩
  ·exact h.elim
def rh{parts:List (Nat×Operand)}:W_ P ⟨t,r⟩ n parts K (some (e,sz))=(n*sz<=16777216/\RE (Bu P e) sz/\parts.length=n/\Jt 0 (parts.map fun(i,x)=>(i,(St.mk t r).get x))=true/\Bq (Dn sz (parts.map fun(i,x)=>(i,(St.mk t r).get x))) (wu K)):=(rfl)
def J2(b:Option Nat)(m:Nat):Prop:=∃x,b=some x/\m*x<=140737488355328
def Jp0{m x:Nat}:J2 (some x) m=(m*x<=140737488355328):=pe ⟨fun⟨_,h,hc⟩=>by cases h;exact hc,fun h=>⟨x,rfl,h⟩⟩
def dT(P:Program)(tt:Prop)(d:Nat)(e sz:Nat)(s:St)(lx:L)(J:St->Prop)(CN:List (List PV)):Prop:=
 (∀q∈CN,q.length=sz)/\match lx with
  |.own d0 0 n=>match Am d0 s.regs with
   |some (.row T EE es)=>T=e/\EE=sz/\es.length=n/\(∃b,Bo P e=some b/\(n+CN.length)*b<=140737488355328)/\n+CN.length<=9223372036854775807 /\
     J (((s.forget d0).newReg d (.row e sz (es++CN))).put (some d) (.own d 0 (n+CN.length)))
   |some (.lrow T EE true es)=>T=e/\EE=sz/\tt/\Fx P d e sz s n es CN J
   |_=>False
  |.p .snil=>(∃b,Bo P e=some b/\CN.length*b<=140737488355328)/\CN.length<=9223372036854775807/\J ((s.newReg d (.row e sz CN)).put (some d) (.own d 0 CN.length))
  |_=>False
def X_(P:Program)(tt:Prop)(b:Option Nat)(d:Nat)(e sz:Nat)(s:St)(d0 n:Nat)(J:St->Prop)(CN:List (List PV))(q:Option DG):Prop:=
 match q with
 |some (
     .row T EE es)=>T=e/\EE=sz/\es.length=n/\J2 b (n+CN.length)/\n+CN.length<=9223372036854775807 /\
     J (((s.forget d0).newReg d (.row e sz (es++CN))).put (some d) (.own d 0 (n+CN.length)))
 |some (.lrow T EE true es)=>T=e/\EE=sz/\tt/\Fx P d e sz s n es CN J
 |_=>False
def j1(P:Program)(d e sz:Nat)(s:St)(m:Int)(J:St->Prop)(n:Nat)(zs:List PV):Option DG->Prop|some (.lrow T EE true es)=>T=e/\EE=sz/\Fx P d e sz s n es (List.replicate m.toNat zs) J|_=>False
def ri(d e sz:Nat)(s:St)(m:Int)(J:St->Prop)(zs:List PV):Prop := zs.length=sz/\J2 bb m.toNat/\m<=9223372036854775807/\J ((s.newReg d (.row e sz [])).put (some d) (.own d 0 m.toNat))
def bM(P:Program)(d e sz:Nat)(s:St)(m:Int)(J:St->Prop)(lx:L)(zs:List PV):Prop:=match lx with|.own d0 0 n=>sz=1/\zs.length=1/\j1 P d e sz s m J n zs (Am d0 s.regs)|.p .snil=>ri (Bo P e) d e sz s m J zs|_=>False
def Zj:Option TypeDesc->Prop|some (.int _)=>True|_=>False
def Job:Zj (some (.int k))=True:=(rfl)
def j2(P:Program)(t1 t2:TypeId)(d:Nat)(o:Option (TypeId×Nat))(s:St)(lx ly:L)(J:St->Prop):Prop:=
 match o with
 |some (e,sz)=>match ly with
  |.p (.int _ m)=>Zj (P.underlying t2)/\0<m/\Bq (Bu P e) (bM P d e sz s m J lx)
  |_=>RE (Bu P e) sz/\Bq (Gp P t1 t2 e s ly) (dT P (t1=t2) d e sz s lx J)
 |none=>False
def Jmv{t1 t2:TypeId}{q:Operand}:Kk P d t1 t2 ⟨t,r⟩ o q J=(d<1000/\j2 P t1 t2 d (IW P t1) ⟨t,r⟩ ((St.mk t r).get o) ((St.mk t r).get q) J):=by
 unfold Kk;split
 ·rename_i kq m hg;rw[hg];unfold j2;cases IW P t1 with
  |none=>rfl
  |some p =>
   obtain⟨e,sz⟩:=p;simp only[Yk,Bq,bM,ri,J2];have h1:(∃k,P.underlying t2=some (.int k))↔Zj (P.underlying t2):=by
    unfold Zj;split
    ·rename_i k h;exact⟨fun _=>trivial,fun _=>⟨k,h⟩⟩
    ·rename_i h;exact⟨fun⟨k,hk⟩=>h k hk,fun h=>h.elim⟩
   rw[h1];rfl
 ·rename_i h;unfold Qe j2;cases IW P t1 with
  |none=>rfl
  |some p =>
   obtain⟨e,sz⟩:=p;generalize(St.mk t r).get q=ly at *
   cases ly with
   |p x =>
    cases x with
    |int k m=>exact(h _ _ rfl).elim
    |_=>unfold dT RE Bq;rfl
   |_=>unfold dT RE Bq;rfl
def Jhc{t1 t2:TypeId}{lx:L}{m:Int}:j2 P t1 t2 d (some (e,sz)) ⟨t,r⟩ lx (.p (.int k m)) J=(Zj (P.underlying t2)/\0<m/\Bq (Bu P e) (bM P d e sz ⟨t,r⟩ m J lx)):=(rfl)
def Jm3{m:Int}:bM P d e sz ⟨t,r⟩ m J (.p .snil) zs=(zs.length=sz/\J2 (Bo P e) m.toNat/\m<=9223372036854775807/\J ((St.newReg d (.row e sz []) ⟨t,r⟩).put (some d) (.own d 0 m.toNat))):=(rfl)
def j3{m:Int}{d0:Nat}:bM P d e sz ⟨t,r⟩ m J (.own d0 0 n) zs=(sz=1/\zs.length=1/\j1 P d e sz ⟨t,r⟩ m J n zs (Am d0 r)):=(rfl)
def j4{m:Int}{ls:List (List L)}:j1 P d e sz ⟨t,r⟩ m J n zs (some (.lrow T EE true ls))=(T=e/\EE=sz/\Fx P d e sz ⟨t,r⟩ n ls (List.replicate m.toNat zs) J):=(rfl)
def Jfy{t1 t2:TypeId}{lx:L}:j2 P t1 t2 d (some (e,sz)) ⟨t,r⟩ lx (.p (.str x)) J=(RE (Bu P e) sz/\Bq (Gp P t1 t2 e ⟨t,r⟩ (.p (.str x))) (dT P (t1=t2) d e sz ⟨t,r⟩ lx J)):=(rfl)
def Jkp{t1 t2:TypeId}{lx:L}:j2 P t1 t2 d (some (e,sz)) ⟨t,r⟩ lx (.p (.sl es)) J=(RE (Bu P e) sz/\Bq (Gp P t1 t2 e ⟨t,r⟩ (.p (.sl es))) (dT P (t1=t2) d e sz ⟨t,r⟩ lx J)):=(rfl)
def Jhp{t1 t2:TypeId}{lx:L}{d0 o m:Nat}:j2 P t1 t2 d (some (e,sz)) ⟨t,r⟩ lx (.own d0 o m) J=(RE (Bu P e) sz/\Bq (Gp P t1 t2 e ⟨t,r⟩ (.own d0 o m)) (dT P (t1=t2) d e sz ⟨t,r⟩ lx J)):=(rfl)
def Jk9(o1 o2:Option TypeDesc)(b:Option Nat)(z:Option PV)(bs:List UInt8):Option (List (List PV)):=match o1,o2,b,z with|some .string,some (.int .u8),some 1,some (.int .u8 0)=>some (bs.map fun c=>[.int .u8 c.toNat])|_,_,_,_=>none
def V4{t1 t2:TypeId}:Gp P t1 t2 e ⟨t,r⟩ (.p (.str x))=Jk9 (P.underlying t2) (P.underlying e) (Bo P e) (E5 P e) x:=(rfl)
def Jmk:Jk9 (some .string) (some (.int .u8)) (some 1) (some (.int .u8 0)) x=some (x.map fun c=>[.int .u8 c.toNat]):=(rfl)
def Yy{t1 t2:TypeId}:Gp P t1 t2 e ⟨t,r⟩ (.p (.sl es))=if t1=t2 then some es else none:=(rfl)
def Ul{t1 t2:TypeId}{o m:Nat}:Gp P t1 t2 e ⟨t,r⟩ (.own d o m)=if t1=t2 then Gj ⟨t,r⟩ (.own d o m)else none:=(rfl)
def Jh0{d0:Nat}:dT P tt d e sz ⟨t,r⟩ (.own d0 0 n) J es=((∀q∈es,q.length=sz)/\X_ P tt (Bo P e) d e sz ⟨t,r⟩ d0 n J es (Am d0 r)):=by
 unfold dT X_ J2;rfl
def Jhl:dT P tt d e sz ⟨t,r⟩ (.p .snil) J es=((∀q∈es,q.length=sz)/\J2 (Bo P e) es.length/\es.length<=9223372036854775807/\J ((St.newReg d (.row e sz es) ⟨t,r⟩).put (some d) (.own d 0 es.length))):=(rfl)
def rj{bb:Option Nat}{d0 EE:Nat}:X_ P tt bb d e sz ⟨t,r⟩ d0 n J CN (some (.row T EE es))=(T=e/\EE=sz/\es.length=n/\J2 bb (n+CN.length)/\n+CN.length<=9223372036854775807 /\
     J ((St.newReg d (.row e sz (es++CN)) (St.forget d0 ⟨t,r⟩)).put (some d) (.own d 0 (n+CN.length)))):=(rfl)
def Y_(d e sz:Nat)(s:St)(n:Nat)(CN:List (List PV))(J:St->Prop)(ps:List (List PV)):Prop := J2 bb (n+CN.length)/\n+CN.length<=9223372036854775807/\J ((s.newReg d (.row e sz (ps++CN))).put (some d) (.own d 0 (n+CN.length)))
def rl{ls:List (List L)}:Fx P d e sz ⟨t,r⟩ n ls CN J=(n<=ls.length/\0<ls.length/\ls.length<n+CN.length/\Bq (Cb (ls.take n)) (Y_ (Bo P e) d e sz ⟨t,r⟩ n CN J)):=by
 unfold Fx Bq Y_ J2;rfl
def j5{bb:Option Nat}{ps:List (List PV)}:Y_ bb d e sz ⟨t,r⟩ n CN J ps=(J2 bb (n+CN.length)/\n+CN.length<=9223372036854775807/\J ((St.newReg d (.row e sz (ps++CN)) ⟨t,r⟩).put (some d) (.own d 0 (n+CN.length)))):=(rfl)
def rp(d:Nat)(e b m:Nat)(s:St)(lx:L)(J:St->Prop)(CN:List (List L)):Prop:=
 match lx with
 |.p .snil=>m*b<=140737488355328/\m<=9223372036854775807/\J ((s.newReg d (.lrow e 1 false CN)).put (some d) (.own d 0 m))
 |.own d0 0 n=>match Am d0 s.regs with
  |some (.lrow T0 1 _ es)=>T0=e/\es.length=n/\Yi d es=true/\(n+m)*b<=140737488355328/\n+m<=9223372036854775807/\J (((s.forget d0).newReg d (.lrow e 1 false (es++CN))).put (some d) (.own d 0 (n+m)))
  |_=>False
 |_=>False
def Kbw{b m:Nat}{CN:List (List L)}:rp d e b m ⟨t,r⟩ (.p .snil) J CN=(m*b<=140737488355328/\m<=9223372036854775807/\J ((St.newReg d (.lrow e 1 false CN) ⟨t,r⟩).put (some d) (.own d 0 m))):=(rfl)
def alR(d d0:Nat)(e b n m:Nat)(s:St)(J:St->Prop)(CN:List (List L)):Option DG->Prop|some (.lrow T0 1 _ es)=>T0=e/\es.length=n/\Yi d es=true/\(n+m)*b<=140737488355328/\n+m<=9223372036854775807/\J (((s.forget d0).newReg d (.lrow e 1 false (es++CN))).put (some d) (.own d 0 (n+m)))|_=>False
def Kco{b m d0:Nat}{CN:List (List L)}:rp d e b m ⟨t,r⟩ (.own d0 0 n) J CN=alR d d0 e b n m ⟨t,r⟩ J CN (Am d0 r):=(rfl)
def rq{b m d0 T0:Nat}{es CN:List (List L)}:alR d d0 e b n m ⟨t,r⟩ J CN (some (.lrow T0 1 fu es))=(T0=e/\es.length=n/\Yi d es=true/\(n+m)*b<=140737488355328/\n+m<=9223372036854775807/\J ((St.newReg d (.lrow e 1 false (es++CN)) (St.forget d0 ⟨t,r⟩)).put (some d) (.own d 0 (n+m)))):=(rfl)
def wv(d e b m:Nat)(s:St)(lx:L)(J:St->Prop):Option DG->Prop
 |some (.lrow T1 1 _ CN)=>T1=e/\CN.length=m/\0<m/\(CN.all fun q=>q.all L.cellOK)=true/\Yi d CN=true/\rp d e b m s lx J CN
 |_=>False
def ru{b m T1:Nat}{lx:L}{CN:List (List L)}:wv d e b m ⟨t,r⟩ lx J (some (.lrow T1 1 fu CN))=(T1=e/\CN.length=m/\0<m/\(CN.all fun q=>q.all L.cellOK)=true/\Yi d CN=true/\rp d e b m ⟨t,r⟩ lx J CN):=(rfl)
def wx(d e m d1:Nat)(s:St)(lx:L)(J:St->Prop):Option Nat->Prop|some b=>wv d e b m s lx J (Am d1 s.regs)|none=>False
def rz{b m d1:Nat}{lx:L}:wx d e m d1 ⟨t,r⟩ lx J (some b)=wv d e b m ⟨t,r⟩ lx J (Am d1 r):=(rfl)
def Z_(P:Program)(d:Nat)(s:St)(lx ly:L)(J:St->Prop)(o:Option (TypeId×Nat)):Prop:=match o,ly with|some (e,1),.own d1 0 m=>RE (Bu P e) 1/\wx d e m d1 s lx J (Bo P e)|_,_=>False
def r8{lx:L}{d1 m:Nat}:Z_ P d ⟨t,r⟩ lx (.own d1 0 m) J (some (e,1))=(RE (Bu P e) 1/\wx d e m d1 ⟨t,r⟩ lx J (Bo P e)):=(rfl)
def Kb7{x y:Operand}:pX P d ty ⟨t,r⟩ x y J=(d<1000/\Z_ P d ⟨t,r⟩ ((St.mk t r).get x) ((St.mk t r).get y) J (IW P ty)):=by
 unfold pX Z_ wx wv rp RE;apply pe;refine and_congr_right fun _=>⟨?_,fun h=>?_⟩
 ·rintro⟨e,b,h,h1,h2,h3⟩;rw[h];split at h3
  ·rename_i d1 m hg;rw[hg];refine⟨h1,?_⟩;show match Bo P e with
    |some b=>_
    |none=>_
   rw[h2];exact h3
  ·exact h3.elim
 ·split at h
  ·rename_i e d1 m he hg;obtain⟨h1,h⟩:=h;split at h
   ·rename_i b hb;exact⟨e,b,he,h1,hb,by rw[hg];exact h⟩
   ·exact h.elim
  ·exact h.elim
def wy(d By:Nat)(CN:List (List PV))(C:St->L->Prop):Option DG->Prop|some (.row T EE es)=>EE=1/\By+CN.length<=es.length/\C { s with regs:=Bs d (.row T 1 (es.take By++CN++es.drop (By+CN.length))) s.regs } (.p (.int .i64 (CN.length:Nat)))|some (.lrow T EE f es)=>EE=1/\By+CN.length<=es.length/\C { s with regs:=Bs d (.lrow T 1 f (es.take By++CN.map (List.map L.p)++es.drop (By+CN.length))) s.regs } (.p (.int .i64 (CN.length:Nat)))|_=>False
def wz(d By:Nat)(ly:L)(C:St->L->Prop)(CN:List (List PV)):Prop := (∀q∈CN,q.length=1)/\N6 s ly/\if CN.length=0 then C s (.p (.int .i64 0))else wy s d By CN C (Am d s.regs)
def w4(lx ly:L)(C:St->L->Prop):Prop:=match lx with|.own d By len=>Bq (YX s len ly) (wz s d By ly C)|_=>False
def a_(P:Program)(t1 t2:TypeId)(s:St)(lx ly:L)(C:St->L->Prop)(o:Option (TypeId×Nat)):Prop:=match o with|some (_,sz)=>sz=1/\t1=t2/\w4 s lx ly C|none=>False
def j6{t1 t2:TypeId}{q:Operand}{C:St->L->Prop}:Tv P t1 t2 ⟨t,r⟩ o q C=a_ P t1 t2 ⟨t,r⟩ ((St.mk t r).get o) ((St.mk t r).get q) C (IW P t1):=by
 unfold Tv a_ w4 Bq wz;cases IW P t1 with
 |none=>rfl
 |some p =>
  obtain⟨e,sz⟩:=p;rfl
def sA{t1 t2:TypeId}{lx ly:L}{C:St->L->Prop}:a_ P t1 t2 ⟨t,r⟩ lx ly C (some (e,sz))=(sz=1/\t1=t2/\w4 ⟨t,r⟩ lx ly C):=(rfl)
def sB{By len:Nat}{ly:L}{C:St->L->Prop}:w4 ⟨t,r⟩ (.own d By len) ly C=Bq (YX ⟨t,r⟩ len ly) (wz ⟨t,r⟩ d By ly C):=(rfl)
def sC{By:Nat}{ly:L}{C:St->L->Prop}:wz ⟨t,r⟩ d By ly C CN=((∀q∈CN,q.length=1)/\N6 ⟨t,r⟩ ly/\if CN.length=0 then C ⟨t,r⟩ (.p (.int .i64 0))else wy ⟨t,r⟩ d By CN C (Am d r)):=(rfl)
def sD{By EE:Nat}{C:St->L->Prop}:wy ⟨t,r⟩ d By CN C (some (.row T EE es))=(EE=1/\By+CN.length<=es.length/\C ⟨t,Bs d (.row T 1 (es.take By++CN++es.drop (By+CN.length))) r⟩ (.p (.int .i64 (CN.length:Nat)))):=(rfl)
def j7{By EE:Nat}{f:Bool}{ls:List (List L)}{C:St->L->Prop}:wy ⟨t,r⟩ d By CN C (some (.lrow T EE f ls))=(EE=1/\By+CN.length<=ls.length/\C ⟨t,Bs d (.lrow T 1 f (ls.take By++CN.map (List.map L.p)++ls.drop (By+CN.length))) r⟩ (.p (.int .i64 (CN.length:Nat)))):=(rfl)
def b_(m d By len:Nat):Option DG->Option (List (List PV))|some (.lrow _ _ _ es)=>if By+len<=es.length then Cb ((es.drop By).take (min len m))else none|_=>(Gj s (.own d By len)).map (List.take m)
def Jbm{m o n:Nat}:YX ⟨t,r⟩ m (.own d o n)=b_ ⟨t,r⟩ m d o n (Am d r):=(rfl)
def Jez{m o n EE:Nat}{f:Bool}{ls:List (List L)}:b_ ⟨t,r⟩ m d o n (some (.lrow T EE f ls))=if o+n<=ls.length then Cb ((ls.drop o).take (min n m))else none:=(rfl)
def fU(m:Nat)(o:Option (List (List PV))):Option (List (List PV)):=o.map (List.take m)
def Joy{m:Nat}:fU m (some es)=some (es.take m):=(rfl)
def Jfc{m o n EE:Nat}:b_ ⟨t,r⟩ m d o n (some (.row T EE es))=fU m (Gj ⟨t,r⟩ (.own d o n)):=(rfl)
def dU:Option (List (List PV))->Prop|some es=>∀e∈es,e.length=1|none=>True
def Jh3{l:L}:N6 ⟨t,r⟩ l=dU (Gj ⟨t,r⟩ l):=by
 unfold N6 dU;split<;>simp_all
def j8:dU (some es) = ∀e∈es,e.length=1:=(rfl)
def j9:dU none=True:=(rfl)
def dV(By len:Nat):Option DG->Option (List (List PV))|some (.row _ _ es)=>if By+len<=es.length then some ((es.drop By).take len)else none|_=>none
def Je1{o m:Nat}:Gj ⟨t,r⟩ (.own d o m)=dV o m (Am d r):=by
 unfold Gj dV;simp only;cases Am d r with
 |none=>rfl
 |some g=>cases g<;>rfl
def Jls{o m:Nat}{f:Bool}{ls:List (List L)}:dV o m (some (.lrow T EE f ls))=none:=(rfl)
def kA{o m:Nat}:dV o m (some (.row T sz es))=if o+m<=es.length then some ((es.drop o).take m)else none:=(rfl)
def Jpm{C:PV->Prop}:Rb C (.p v)=C v:=(rfl)
def c_(C:List PV->Prop)(x:PV)(xs:List PV):Prop:=C (x::xs)
def d_(P:Program)(s:St)(l:List ResultVar)(C:List PV->Prop)(x:PV):Prop:=H4 P s l (c_ C x)
def sE:c_ C v cs=C (v::cs):=(rfl)
def sF:d_ P ⟨t,r⟩ l C v=H4 P ⟨t,r⟩ l (c_ C v):=(rfl)
def Jgr:H4 P ⟨t,r⟩ [] C=C []:=(rfl)
def Jgh:H4 P ⟨t,r⟩ (.tmp i::l) C=Rb (d_ P ⟨t,r⟩ l C) (t.getD i .junk):=(rfl)
def Jcf:H4 P ⟨t,r⟩ (.cell i T::l) C=Jc P r T (t.getD i .junk) (Rb (d_ P ⟨t,r⟩ l C)):=(rfl)
def kB{Post:L->BX->Prop}:dJ keys Post r cs=Post (Sg cs) (Cu (900::keys) r):=(rfl)
def Jm0{Post:L->BX->Prop}{l:L}:wQ keys Post r l=Post l (Cu (900::keys) r):=(rfl)
def Jb6:Cu [] r=[]:=(rfl)
def w5(d:Nat)(BR:BX):Option DG->BX|some q=>(d,q)::BR|none=>BR
def Yd:Cu (d::GO) r=w5 d (Cu GO r) (Am d r):=by
 simp only[Cu,w5];cases Am d r<;>rfl
def Vq:w5 d BR (some q)=(d,q)::BR:=(rfl)
def Vc:w5 d BR none=BR:=(rfl)
def fV(P:Program)(MI:List ResultVar)(keys:List Nat)(Post:L->BX->Prop)(s:St):Prop:=H4 P s MI (dJ keys Post s.regs)
def kC{Post:L->BX->Prop}:O7 P false MI keys Post ⟨t,r⟩=fV P MI keys Post (St.freezeOps ⟨t,r⟩ (Gm MI)):=(rfl)
def kD{Post:L->BX->Prop}:O7 P true MI keys Post ⟨t,r⟩=wR P MI keys Post ⟨t,r⟩:=(rfl)
def Jaw{Post:L->BX->Prop}:wR P [.tmp i] keys Post ⟨t,r⟩=wQ keys Post r (t.getD i .junk):=(rfl)
def kE{Post:L->BX->Prop}:fV P MI keys Post ⟨t,r⟩=H4 P ⟨t,r⟩ MI (dJ keys Post r):=(rfl)
def U2:Du [] ⟨t,r⟩=⟨t,r⟩:=(rfl)
def Sl{a b:Nat}{l:List (Nat×Nat)}:Du ((a,b)::l) ⟨t,r⟩=Du l (Yo a b ⟨t,r⟩):=(rfl)
def dW(a b:Nat)(s:St):Bool->St|true=>s.ren a b|false=>s
def Joh{a b:Nat}:Yo a b ⟨t,r⟩=dW a b ⟨t,r⟩ (findKey a r):=by
 simp only[Yo,dW];cases findKey a r<;>rfl
def Jkr{a b:Nat}:dW a b ⟨t,r⟩ false=⟨t,r⟩:=(rfl)
def Jl9{a b:Nat}:dW a b ⟨t,r⟩ true=⟨t.map (L.map (Fb a b)),Eu a b r⟩:=(rfl)
def Jcp{a b:Nat}:Eu a b []=[]:=(rfl)
def kF(a b:Nat)(q:DG)(BR:BX):Option Nat->BX|some n=>(n,q.map (Fb a b))::BR|none=>BR
def Yv{a b e:Nat}:Eu a b ((e,q)::r)=kF a b q (Eu a b r) (Fb a b e):=by
 simp only[Eu,kF];cases Fb a b e<;>rfl
def Yn{a b e:Nat}:kF a b q BR (some e)=(e,q.map (Fb a b))::BR:=(rfl)
def Vg:Gm []=[]:=(rfl)
def V6:Gm (.tmp i::l)=.tmp i::Gm l:=(rfl)
def Sn:Gm (.cell i T::l)=Gm l:=(rfl)
def Jlv:Sg [v]=.p v:=(rfl)
def Jmh:Sg []=.tup []:=(rfl)
def Jj6{w:PV}:Sg (v::w::cs)=.tup (v::w::cs):=(rfl)
variable {q:DG}
def Jby:Am d []=none:=(rfl)
def Zq:Am d ((i,q)::r)=if i=d then some q else Am d r:=(rfl)
def Jbl:Cv d []=[]:=(rfl)
def Zp:Cv d ((i,q)::r)=if i=d then Cv d r else(i,q.forget d)::Cv d r:=(rfl)
def Jal{q':DG}:Bs d q ((i,q')::r)=if i=d then(i,q)::r else(i,q')::Bs d q r:=(rfl)
variable {z:Fz}
def Jbd:Cp d z []=[]:=(rfl)
def Zh:Cp d z ((i,q)::r)=if i=d then Cp d z r else(i,q.freeze d z)::Cp d z r:=(rfl)
def Jif:DG.forget d (.var T ls)=.var T (ls.map (L.forget d)):=(rfl)
def Jkx:DG.forget d (.row T sz es)=.row T sz es:=(rfl)
def Jio{o:UP}:DG.forget d (.obj o)=.obj o:=(rfl)
def Jgo{ll:List (List L)}:DG.forget d (.lrow T sz fu ll)=.lrow T sz fu (ll.map fun e=>e.map (L.forget d)):=(rfl)
def Jjg:DG.freeze d z (.var T ls)=.var T (ls.map (L.freeze d z)):=(rfl)
def Jku:DG.freeze d z (.row T sz CN)=.row T sz CN:=(rfl)
def Kbp{ll:List (List L)}:DG.freeze d z (.lrow T sz fu ll)=.lrow T sz fu (ll.map fun e=>e.map (L.freeze d z)):=(rfl)
def Jll{o:UP}:DG.freeze d z (.obj o)=.obj o:=(rfl)
def sG:L.forget d (.p v)=.p v:=(rfl)
def Jkc:L.forget d .junk=.junk:=(rfl)
def Jnw:L.forget d (.tup xs)=.tup xs:=(rfl)
def Jkv:L.forget d (.eptr cs)=.eptr cs:=(rfl)
def Joj{e:Nat}:L.forget d (.ptr e i j)=if e=d then .junk else .ptr e i j:=by simp[L.forget,L.mentions]
def Jpl{e:Nat}{o m:Nat}:L.forget d (.own e o m)=if e=d then .junk else .own e o m:=by simp[L.forget,L.mentions]
def Jiy{e:Nat}:L.forget d (.mref e)=if e=d then .junk else .mref e:=by simp[L.forget,L.mentions]
def kG:L.forget d (.fn g GO)=if GO.contains d=true then .junk else .fn g GO:=(rfl)
def sH:L.freeze d z (.p v)=.p v:=(rfl)
def Jjn:L.freeze d z .junk=.junk:=(rfl)
def Jnf:L.freeze d z (.tup xs)=.tup xs:=(rfl)
def Jlu:L.freeze d z (.eptr cs)=.eptr cs:=(rfl)
def Jom{l:Nat}:L.freeze d z (.yld l)=.yld l:=(rfl)
def Jog{e:Nat}:L.freeze d (.rw es) (.ptr e i j)=if e=d then .junk else .ptr e i j:=(rfl)
def Jlw{e:Nat}:L.freeze d .gone (.ptr e i j)=if e=d then .junk else .ptr e i j:=(rfl)
def Jjd{e:Nat}:L.freeze d (.mp mm) (.ptr e i j)=if e=d then .junk else .ptr e i j:=(rfl)
def Jme{e:Nat}:L.freeze d (.ar ps) (.ptr e 0 0)=if e=d then .eptr ps else .ptr e 0 0:=by
 show(if e=d then(if 0=0/\0<=ps.length then L.eptr (ps.drop 0)else .junk)else _)=_;simp
def Keq{e o m:Nat}:L.freeze d (.ar ps) (.own e o m)=if e=d then .junk else .own e o m:=(rfl)
def Jo9{e o m:Nat}:L.freeze d (.rw es) (.own e o m)=if e=d then(if o+m<=es.length then .p (.sl ((es.drop o).take m))else .junk)else .own e o m:=(rfl)
def Jkn{e o m:Nat}:L.freeze d .gone (.own e o m)=if e=d then .junk else .own e o m:=(rfl)
def Jij{e:Nat}:L.freeze d (.mp mm) (.mref e)=if e=d then .p (.mp mm)else .mref e:=(rfl)
def Kb3{e:Nat}:L.freeze d (.rw es) (.mref e)=if e=d then .junk else .mref e:=(rfl)
def kH:L.freeze d z (.fn g GO)=if GO.contains d=true then .junk else .fn g GO:=(rfl)
def Jgj:DG.ids (.var T ls)=ls.flatMap L.ids:=(rfl)
def Jgs:DG.ids (.row T sz es)=[]:=(rfl)
def kI:L.ids (.p v)=[]:=(rfl)
def Jk3:L.ids (.ptr d i j)=[d]:=(rfl)
def Jk1{o m:Nat}:L.ids (.own d o m)=[d]:=(rfl)
def Jpk:L.ids (.fn g GO)=GO:=(rfl)
def Jfa{f:α->Option γ}:Bg f []=some []:=(rfl)
def fW(o:Option γ)(os:Option (List γ)):Option (List γ):=
 match o with
 |some b=>match os with
  |some bs=>some (b::bs)
  |none=>none
 |none=>none
def Jp3{b:γ}{bs:List γ}:fW (some b) (some bs)=some (b::bs):=(rfl)
def Jbe{f:α->Option γ}{a:α}{l:List α}:Bg f (a::l)=fW (f a) (Bg f l):=(rfl)
def kJ:L.pure? (.p v)=some v:=(rfl)
end
variable {a:L}{t:List L}
def BY{c:Prop}[Decidable c]{A B:Prop}(h1:c->A)(h2:¬c->B):if c then A else B:=by
 by_cases h:c
 ·rw[AB h];exact h1 h
 ·rw[AA h];exact h2 h
def Ac{l:List UInt8}:(l=[])=(l.length=0):=sm
def w6{n:Nat}:((n:Int)-1).toNat=n-1:=omg
def w7{a b:Nat}:((a:Int)-b).toNat=a-b:=omg
def w8{n:Nat}:((n:Int)+1).toNat=n+1:=omg
def w9{a b:Nat}:((a:Int)+b).toNat=a+b:=omg
def Ak{l:List α}{Q:α->Prop}(h:i<l.length)(hq:∀a,l[i]?=some a->Q a):∃a,l[i]?=some a/\Q a:=⟨l[i],C' h,hq _ (C' h)⟩
def sI(A:St->Prop)(Q:Ex->St->Prop):Ex->St->Prop|.normal,s=>A s|.exit id,s=>Q (.exit id) s|.ret,s=>Q .ret s
def rounds(X:Cx)(ro:Option Nat)(c:Code)(Q:Ex->St->Prop):Nat->St->Prop|0,_=>False|n+1,s=>CL X ro c (sI (rounds X ro c Q n) Q) s
def sJ:sI A Q .normal ⟨t,r⟩=A ⟨t,r⟩:=(rfl)
def sK{id:Nat}:sI A Q (.exit id) ⟨t,r⟩=Q (.exit id) ⟨t,r⟩:=(rfl)
def sL:sI A Q .ret ⟨t,r⟩=Q .ret ⟨t,r⟩:=(rfl)
def CL.rounds{X:Cx}{ro:Option Nat}{c:Code}{Q:Ex->St->Prop}{s:St}(n:Nat)(h:rounds X ro c Q n s):CL X ro (.loop c) Q s:=by
 intro Γ a w hG hr;have key:∀n s,LX.rounds X ro c Q n s->∀a w,RR Γ s a w->∀(b:Frame) (k:List Item) (cs:List Frame),b.roundOf=(F0 ro).round->(F0 ro).fn b.fn->(F0 ro).room (cs.length+1+1) ->
   ∃e a' w',QQ Γ Q e a' w'/\ArrivesIn (Machine.fenced X.P (F0 ro)) X.P (lone (b.atR a (.code c::.inLoop c::k)) cs w) b k cs e a' w':=by
  intro n
  induction n with
  |zero=>intro s h;exact h.elim
  |succ n ih =>
   intro s hs a w hr b k cs VU hb EM;obtain⟨e,LQ,LR,hq,IT⟩:=hs Γ a w hG hr b (.inLoop c::k) cs VU hb EM;cases e with
   |normal =>
    obtain⟨s',h1,h2⟩:=hq;obtain⟨bD,bE,bF,UZ,NJ⟩:=ih s' h1 LQ LR h2 b k cs VU hb EM;exact⟨bD,bE,bF,UZ,.of_steps (StepsIn.trans IT (.one (fenced_calm hb EM rfl) stepR_inLoop)) NJ⟩
   |exit id =>
    obtain⟨s',h1,h2⟩:=hq;exact⟨.exit id,LQ,LR,⟨s',h1,h2⟩,.pass (x:=.inLoop c) rfl (fun _ _=>.inl sm) IT⟩
   |ret =>
    obtain⟨s',h1,h2⟩:=hq;exact⟨.ret,LQ,LR,⟨s',h1,h2⟩,.pass (x:=.inLoop c) rfl (fun _ _=>.inl sm) IT⟩
   |goto l=>exact hq.elim
   |panic ch=>exact hq.elim
   |outgrown=>exact hq.elim
 intro b k cs VU hb EM;obtain⟨e,a',w',hq,IT⟩:=key n s h a w hr b k cs VU hb EM;exact⟨e,a',w',hq,.of_steps (.one (fenced_calm hb EM rfl) stepR_loop) IT⟩
def e_{w':World}{args:List L}{tmps:Array Value}(hf:Fit β w Im ⟨args,rs⟩ tmps)(h:Below w.heap.size w w'):Gt β w Im rs β w' Im rs:=
 {
  os:=h.os,tape:=h.tape,output:=h.output,size:=h.size,block:=fun k hk _=>h.block k hk,imin:=fun _ h=>h,imnew:=fun _ h=>.inl h,env:=fun _ _ _=>rfl,keys:=fun d r hd=>.inr ⟨r,hd⟩,regnew:=fun d r loc hd hl=>.inr ⟨d,r,loc,hd,hl,rfl⟩
  fit:=by
   have g:DY w Im w' Im:=⟨h.os,h.tape,h.output,h.size,h.block,fun _ h=>h,fun _ h=>.inl h,fun b hb=>NB (hf.im b hb) h.size⟩
   have:=hf.grow g;exact{ size:=rfl,tmps:=fun i l h=>by simp at h,regs:=this.regs,nodup:=this.nodup,live:=this.live,apart:=this.apart,im:=this.im } }
def fX{args:List L}{l:L}{v:Value}(Pu:Enters X.P f)(_:l.retOK=true)(hv:∀β w Im,CE β w Im v l)(h:∀(β:ET) (Im:Nat->Prop) (w:World) (vs:List Value),X.G w Im->Fit β w Im ⟨args,rs⟩ ⟨vs⟩->Calls X.P f ⟨vs⟩ w fun e w'=>e=.returned v/\Below w.heap.size w w'):CA X f args rs l rs:=
 ⟨Pu,fun β Im w vs hg hf=>(h β Im w vs hg hf).mono fun _ w' ⟨he,hb⟩=>⟨v,l,rs,β,Im,he,⟨rfl,rfl⟩,hv _ _ _,e_ hf hb⟩⟩
def Jws{args:List L}{l:L}(Pu:Enters X.P f)(h:∀(β:ET) (Im:Nat->Prop) (w:World) (vs:List Value),X.G w Im->Fit β w Im ⟨args,rs⟩ ⟨vs⟩->Calls X.P f ⟨vs⟩ w fun e w'=>(∃v,e=.returned v/\∀β w Im,CE β w Im v l)/\Below w.heap.size w w'):CA X f args rs l rs:=
 ⟨Pu,fun β Im w vs hg hf=>(h β Im w vs hg hf).mono fun _ w' ⟨⟨v,he,hv⟩,hb⟩=>⟨v,l,rs,β,Im,he,⟨rfl,rfl⟩,hv _ _ _,e_ hf hb⟩⟩
def Jn2{v:Value}{t:TypeId}(h:CE β w Im v (.p (.ifi t k n))):v=.iface t (.int k n):=by cases h;rfl
def Ue(h:Fit β w Im ⟨[a],rs⟩ ⟨vs⟩):∃v,vs=[v]/\CE β w Im v a:=by
 have hs:=h.size
 match vs,hs with
 |[v],_=>exact⟨v,rfl,h.tmps 0 a rfl⟩
def bN{b:L}(h:Fit β w Im ⟨[a,b],rs⟩ ⟨vs⟩):∃v u,vs=[v,u]/\CE β w Im v a/\CE β w Im u b:=by
 have hs:=h.size
 match vs,hs with
 |[v,u],_=>exact⟨v,u,rfl,h.tmps 0 a rfl,h.tmps 1 b rfl⟩
def f_{b c:L}(h:Fit β w Im ⟨[a,b,c],rs⟩ ⟨vs⟩):∃v u x,vs=[v,u,x]/\CE β w Im v a/\CE β w Im u b/\CE β w Im x c:=by
 have hs:=h.size
 match vs,hs with
 |[v,u,x],_=>exact⟨v,u,x,rfl,h.tmps 0 a rfl,h.tmps 1 b rfl,h.tmps 2 c rfl⟩
def Ks{v:Value}{s:List UInt8}(h:CE β w Im v (.p (.str s))):v=.string ⟨⟨s⟩⟩:=by cases h;rfl
def Mz{v:Value}(h:CE β w Im v (.p (.int k n))):v=.int k n:=by cases h;rfl
def Na{v:Value}(h:CE β w Im v (.p (.bool b))):v=.bool b:=by cases h;rfl
def Khf{v:Value}(h:CE β w Im v (.fn f [])):v=.func (.func f) #[] #[]:=by
 obtain⟨vs,hv,hl,_⟩:=h;cases vs with
 |nil=>exact hv
 |cons a l=>simp at hl
def CA.calls_below{args:List L}{l:L}(h:CA X f args [] l [])(hg:X.G w Im)(hi:∀b,Im b->b<w.heap.size)(hl:vs.length=args.length)(ha:∀(i:Nat) (v:Value) (a:L),vs[i]?=some v->args[i]?=some a->CE (fun _=>none) w Im v a){v:Value}(hu:∀β w' CX u,CE β w' CX u l->u=v):Calls X.P f ⟨vs⟩ w fun e w'=>e=.returned v/\Below w.heap.size w w':=by
 refine(h.2 (fun _=>none) Im w vs hg ?_).mono fun e w' ⟨u,m,DU,β',CX,he,⟨hm,_⟩,hr,hc⟩=>?_
 ·exact{
      size:=by simpa using hl,tmps:=fun i a ha'=>by
       obtain⟨u,pZ⟩:=BQ hl ha';have e:(⟨vs⟩:Array Value).getD i undef=u:=by simp[OQ,pZ]
       rw[e];exact ha i u a pZ ha'
      regs:=fun d r h=>(by cases h),nodup:=.nil,live:=fun d r loc h=>(by cases h),apart:=fun d r d' r' l1 l2 h=>(by cases h),im:=hi }
 ·subst hm;have:=hu _ _ _ _ hr;subst this;exact⟨he,⟨hc.os,hc.tape,hc.output,hc.size,fun k hk=>hc.block k hk fun d r loc h=>(by cases h)⟩⟩
section
variable {X:Cx} {ro:Option Nat} {md:Region.Mode} {ops:Array Oper}
def OJ(md:Region.Mode)(ops:Array Oper):Nat->Nat->Nat->Bool
 |0,_,_=>false
 |f+1,i,j=>match ops[j]? with
  |some o=>o.after.toList.any (fun e=>Region.binds md e&&e.on==i)||o.after.toList.any (fun e=>Region.binds md e&&OJ md ops f i e.on)
  |none=>false
def Y0(md:Region.Mode)(ops:Array Oper)(k:Nat):Bool := (List.range ops.size).all fun j=>decide (j<k)|| (List.range j).all fun i=>OJ md ops ops.size i j
def OK(md:Region.Mode)(ops:Array Oper)(BN:Array Bool):Prop := ∀i o,ops[i]?=some o->BN.getD i false=true->∀e∈o.after,Region.binds md e=true->BN.getD e.on false=true
def Qb{BN:Array Bool}(hd:OK md ops BN):∀(f i j:Nat) (o:Oper),ops[j]?=some o->(∀e∈o.after,Region.binds md e=true->BN.getD e.on false=true)->OJ md ops f i j=true->BN.getD i false=true
 |0,_,_,_,_,_,h=>by cases h
 |f+1,i,j,o,ho,GI,h=>by
  simp only[OJ,ho,WG,List.any_eq_true,OS,AK]at h;rcases h with⟨e,he,hb,rfl⟩|⟨e,he,hb,ha⟩
  ·exact GI e (by simpa using he) hb
  ·have hl:=GI e (by simpa using he) hb;cases sM:ops[e.on]? with
   |none =>
    cases f with
    |zero=>cases ha
    |succ f=>simp[OJ,sM]at ha
   |some oe=>exact Qb hd f i e.on oe sM (fun e' FO HN=>hd e.on oe sM hl e' FO HN) ha
def Hn:BN.getD j true=false↔j<BN.size/\BN.getD j false=false:=by
 simp only[OQ];by_cases h:j<BN.size
 ·simp[h]
 ·simp[h]
def OK.set(hd:OK md ops BN)(hi:i∈Region.ready md ops BN):OK md ops (BN.setIfInBounds i true):=by
 obtain⟨h0,oi,bO,GI⟩:=mem_ready.1 hi;intro j o ho hl e he hb;by_cases HC:j=i
 ·subst HC;rw[bO]at ho;cases ho;exact getD_set_true (GI e he hb)
 ·have:BN.getD j false=true:=by
   rw[<-hl];simp[OQ,Array.getElem?_setIfInBounds_ne (Ne.symm HC)]
  exact getD_set_true (hd j o ho this e he hb)
def Sj{k:Nat}(hT:Y0 md ops k=true)(hd:OK md ops BN)(hj:j∈Region.ready md ops BN)(hk:k<=j):∀i,i<j->BN.getD i false=true:=by
 obtain⟨_,o,ho,GI⟩:=mem_ready.1 hj;intro i hi;simp only[Y0,SQ,List.mem_range,WG,AF]at hT;have h1:=hT j (Rw.1 ho).1;rcases h1 with h1|h1
 ·omega
 ·exact Qb hd _ i j o ho GI (h1 i hi)
def Ty(X:Cx)(md:Region.Mode)(ops:Array Oper)(k:Nat)(K:St->Prop):Nat->Array Bool->St->Prop
 |0,BN,s=>Region.ready md ops BN=[]/\K s
 |fuel+1,BN,s=>(Region.ready md ops BN=[]->K s) /\
  ∀
   i∈Region.ready md ops BN,∀o,ops[i]?=some o ->
   (i<k->YS X (ops.toList.map (·.dst)) s o fun l=>Ty X md ops k K fuel (BN.setIfInBounds i true) (s.put o.dst l)) /\
   (k<=i->∃C:St->Prop,OZ X (ops.toList.map (·.dst)) ops.toList i C s/\∀s',C s'->Ty X md ops k K fuel (BN.setIfInBounds i true) s')
def G0{Γ:FH}{k:Nat}{K:St->Prop}{Q:Exit->Act->World->Prop}{n:Nat}(hG:Γ.G=X.G)(hQ:∀s a w,K s->RR Γ s a w->Q .normal a w):∀(fuel:Nat) (BN:Array Bool) (s:St) (a:Act) (w:World),RR Γ s a w ->
  Ty X md ops k K fuel BN s->wpAnyIn (F0 ro) n X.P md ops Q fuel BN a w
 |0,_,s,a,w,h,hl=>⟨hl.1,hQ s a w hl.2 h⟩
 |fuel+1,_,s,a,w,h,hl=>⟨fun h0=>hQ s a w (hl.1 h0) h,fun i hi=>by
   obtain⟨_,o,ho,_⟩:=mem_ready.1 hi;by_cases hk:i<k
   ·exact Zy ho hG h ((hl.2 i hi o ho).1 hk) fun l a' w' h1 h2=>G0 hG hQ fuel _ _ a' w' h2 h1
   ·obtain⟨C,hA,hC⟩:=(hl.2 i hi o ho).2 omg;exact wpOpIn_mono (fun a' w' ⟨s',hs,UW⟩=>G0 hG hQ fuel _ s' a' w' UW (hC s' hs)) (Uc hG h hA)⟩
def Y9{k:Nat}(hT:Y0 md ops k=true){K:St->Prop}{oi:Oper}{v:L}(hi:ops[i]?=some oi)(xA:i<k):∀(fuel:Nat) (BN:Array Bool) (s:St),OK md ops BN ->
   (∀j oj,ops[j]?=some oj->j≠i->BN.getD j true=false->(∀e∈oj.after,Region.binds md e=true->e.on≠i)->oi.apart ops oj=true) ->
   i∈Region.ready md ops BN->YS X (ops.toList.map (·.dst)) s oi (fun m=>m=v) ->
   Ty X md ops k K fuel (BN.setIfInBounds i true) (s.put oi.dst v)->Ty X md ops k K (fuel+1) BN s:=by
 intro fuel
 induction fuel with
 |zero =>
  intro BN s hd _ hr hy H;have only:∀j∈Region.ready md ops BN,j=i:=by
   intro j hj;by_cases HC:j=i
   ·exact HC
   ·have:=ready_mono hj HC;rw[H.1]at this;cases this
  refine⟨fun h=>(by rw[h]at hr;cases hr),fun j hj oj HG=>?_⟩;have:=only j hj;subst this;rw[hi]at HG;cases HG;exact⟨fun _=>Kr (fun l hl=>by rw[hl];exact H) hy,fun h=>by omega⟩
 |succ fuel ih =>
  intro BN s hd LA hr hy H;refine⟨fun h=>(by rw[h]at hr;cases hr),fun j hj oj HG=>?_⟩;by_cases HC:j=i
  ·subst HC;rw[hi]at HG;cases HG;exact⟨fun _=>Kr (fun l hl=>by rw[hl];exact H) hy,fun h=>by omega⟩
  ·have TE:j<k:=by
    rcases fI j k with h|h
    ·exact h
    ·exfalso;have h1:=Sj hT hd hj h i omg;have h2:=(Hn.1 (mem_ready.1 hr).1).2;rw[h1]at h2;cases h2
   refine⟨fun _=>?_,fun h=>by omega⟩;have h1:=(H.2 j (ready_mono hj HC) oj HG).1 TE;obtain⟨Pv,zk,Pw,GI⟩:=mem_ready.1 hj;rw[HG]at Pw;cases Pw;have WU:∀e∈oj.after,Region.binds md e=true->e.on≠i:=fun e he hb Pe=>by
    have h1:=GI e he hb;have h0:=(Hn.1 (mem_ready.1 hr).1).2;rw[Pe]at h1;rw[h1]at h0;cases h0
   obtain⟨a1,a2,a3⟩:=Oper.apart_spec (LA j oj HG HC Pv WU);have Ib:∀q ok,ops[q]?=some ok->q≠i->(BN.setIfInBounds j true).getD q true=false ->
     (∀e∈ok.after,Region.binds md e=true->e.on≠i)->oi.apart ops ok=true:=fun q ok hk iD ZC GR=>by
    refine LA q ok hk iD ?_ GR;by_cases TE:j=q
    ·subst TE;exact Pv
    ·rw[getD_set_ne true TE]at ZC;exact ZC
   refine Kr (fun l hl=>?_) (Yr a1 h1);refine ih (BN.setIfInBounds j true) (s.put oj.dst l) (hd.set hj) Ib (ready_mono hr (Ne.symm HC)) (Uk a3 hy) ?_;rw[gP _ _ HC];rw[<-nh s v l a2];exact hl
def M5(X:Cx)(ds:List (Option Tmp))(all:List Oper)(K:St->Prop):Nat->Nat->List Oper->St->Prop
 |_,_,[],s=>K s
 |0,i,_::BR,s=>OZ X ds all i (M5 X ds all K 0 (i+1) BR) s
 |k+1,i,o::BR,s=>YS X ds s o fun l=>M5 X ds all K k (i+1) BR (s.put o.dst l)
def sN(p:Nat)(BN:Array Bool):Prop:=∀i,i<BN.size->BN.getD i false=decide (i<p)
def Nc{k:Nat}(hT:Y0 md ops k=true){K:St->Prop}:∀(l:List Oper) (p q:Nat) (BN:Array Bool) (s:St),k-p=q->(∀j,l[j]?=ops[p+j]?)->BN.size=ops.size->OK md ops BN->sN p BN ->
  Region.lexFrom md ops l.length p BN=true->M5 X (ops.toList.map (·.dst)) ops.toList K q p l s->Ty X md ops k K l.length BN s
 |[],_,_,_,_,_,_,_,_,_,hB,h=>⟨by simpa[Region.lexFrom]using hB,by simpa[M5]using h⟩
 |o::l,p,q,BN,s,hq,hl,DI,hd,sO,hB,h=>by
  have h0:ops[p]?=some o:=by simpa using(hl 0).symm
  have hp:p<ops.size:=(Rw.1 h0).1;simp only[DH,Region.lexFrom,OS]at hB;obtain⟨⟨hr,hf⟩,wE⟩:=hB;have UW:p∈Region.ready md ops BN:=by simpa using hr
  have DB:∀j,l[j]?=ops[p+1+j]?:=fun j=>by have:=hl (j+1);simpa[QO,YM 1 j]using this
  have sP:sN (p+1) (BN.setIfInBounds p true):=by
   intro i hi;simp only[Array.size_setIfInBounds]at hi;by_cases pE:i=p
   ·subst pE;simp[OQ,hi]
   ·have:=sO i hi;rw[show(BN.setIfInBounds p true).getD i false=BN.getD i false by simp[OQ,Array.getElem?_setIfInBounds_ne (Ne.symm pE)],this];congr 1;exact propext ⟨fun h=>by omega,fun h=>by omega⟩
  cases q with
  |succ q =>
   simp only[M5]at h;obtain⟨v,hy,hK⟩:=wD (X:=X) h;exact Y9 hT h0 omg l.length BN s hd (Region.free_spec h0 hf) UW hy
    (Nc hT l (p+1) q _ _ omg DB (by simpa using DI) (hd.set UW) sP wE hK)
  |zero =>
   simp only[M5]at h;have only:∀j∈Region.ready md ops BN,j=p:=by
    intro j hj;obtain⟨ZC,oj,HG,_⟩:=mem_ready.1 hj;obtain⟨sQ,hjf⟩:=Hn.1 ZC;have h1:=sO j sQ;rw[hjf]at h1;have hjp:¬j<p:=by simpa using h1.symm
    rcases fI p j with BZ|av
    ·exfalso;have h2:=Sj hT hd hj omg p BZ;have h3:=sO p omg;rw[h2]at h3;simp at h3
    ·omega
   refine⟨fun h'=>(by rw[h']at UW;cases UW),fun j hj oj HG=>?_⟩;have:=only j hj;subst this;refine⟨fun BZ=>by omega,fun _=>?_⟩;rw[h0]at HG;cases HG;exact⟨_,h,fun s' QP=>Nc hT l (j+1) 0 _ s' omg DB (by simpa using DI) (hd.set UW) sP wE QP⟩
def Gi{id:Nat}{s:St}(k:Nat)(hm:X.P.follows .mixedOrders=true)(hB:Region.lexB .any ops=true)(hT:Y0 .any ops k=true)(h:M5 X (ops.toList.map (·.dst)) ops.toList (Q .normal) k 0 ops.toList s):CL X ro (.region id ops true) Q s:=fun Γ a w hG hr=>by
 simp only[Region.lexB,OS]at hB;have h':RR Γ s a { w with drawn:=w.drawn+1 }:=by
  obtain⟨ms,CZ,β,Im,hx⟩:=hr;exact⟨ms,CZ,β,Im,hx.grow (DY.drew hx.fit.im)⟩
 refine wpIn_region_any hm (G0 (k:=k) (K:=Q .normal) hG.1 (fun s _ _ h1 h2=>⟨s,h1,h2⟩) _ _ s a _ h' ?_);have:=Nc (X:=X) (K:=Q .normal) (md:=.any) hT ops.toList 0 k (Array.replicate ops.size false) s omg sm sm ?_ ?_ (by simpa using hB.2) h
 ·simpa using this
 ·intro i o ho hl;exfalso;have hi:=(Rw.1 ho).1;simp[OQ,hi]at hl
 ·intro i hi;simp only[Array.size_replicate]at hi;simp[OQ,hi]
end
section
variable {X:Cx} {ro:Option Nat} {K:St->Prop} {t:List L} {r:BX} {ds:List (Option Tmp)} {all BR:List Oper} {dst:Option Tmp} {op:Op} {ty:TypeId} {ps:String} {af:Array Edge} {i k:Nat}
def Ug(X:Cx)(ds:List (Option Tmp))(all:List Oper)(K:St->Prop)(k i:Nat)(BR:List Oper):St->Prop:=M5 X ds all K k i BR
def Jnu{k i:Nat}{l:List Oper}:M5 X ds all K k i l ⟨t,r⟩=Ug X ds all K k i l ⟨t,r⟩:=(rfl)
def sR:Ug X ds all K k i [] ⟨t,r⟩=K ⟨t,r⟩:=by cases k<;>rfl
def Jn7{o:Oper}:Ug X ds all K 0 i (o::BR) ⟨t,r⟩=OZ X ds all i (Ug X ds all K 0 (i+1) BR) ⟨t,r⟩:=(rfl)
def Jo8{o:Oper}:Ug X ds all K (k+1) i (o::BR) ⟨t,r⟩=YS X ds ⟨t,r⟩ o (DL o.dst (Ug X ds all K k (i+1) BR) ⟨t,r⟩):=(rfl)
def kK{C:L->Prop}:YS X ds ⟨t,r⟩ ⟨dst,op,ty,ps,af,none⟩ C=KC X ⟨t,r⟩ ⟨dst,op,ty,ps,af,none⟩ C:=(rfl)
end
def kL{ro:Option Nat}{c:Code}{s:St}{n:Nat}(hm:X.P.follows .mixedOrders=true)(h:KQ X ro c (sI (LX.rounds X ro c Q n) Q) s):LX.rounds X ro c Q (n+1) s:=Ae hm _ _ _ h
end Go.LX
