/- The two small functions that write into a string's bytes, walked by the kit's own tactics: nothing of LX here. -/
import Derived.Test.YtpaiiekgdgjjnaaGreatDoorProg
import Derived.WalkKit
import Derived.WalkSpells
import Derived.Lib.ConvBytes
import Derived.Lib.SlBytesRow
import Derived.Lib.AtoiErrMem
import Derived.Test.YtpaiiekgdgjjnaaGreatDoorLxX
import Derived.Test.YtpaiiekgdgjjnaaGreatDoorLxS
set_option linter.unusedSimpArgs false
set_option linter.unusedVariables false
set_option linter.unusedSectionVars false
set_option linter.unnecessarySimpa false
namespace Go.LX
open Go Go.Proofs Go.RowKit
structure BytesOwn (w wr:World) (l:List UInt8):Prop where
 below:Below w.heap.size w wr
 cell:∀ (k:Nat) (c:UInt8),l[k]? = some c→wr.cell? ⟨w.heap.size,k,none⟩=some (.int .u8 (c.toNat:Int))
 soft:∀ k,k<l.length→wr.frozen? ⟨w.heap.size,k,none⟩=false
theorem Juu (w:World) (e:TypeId) (s:ByteArray):BytesOwn w (Lib.bytesWorld w e s) s.data.toList where
 below:=Lib.bytesWorld_below w e s
 cell k c hk:=by
  have hlt:=(List.getElem?_eq_some_iff.1 hk).1;rw [Lib.bytesWorld_cell w e s k (by simpa using hlt)];simp only [List.getD,hk,Option.getD_some]
 soft k hk:=by
  simp only [World.frozen?,Lib.bytesWorld_at_new];have:k<(Lib.bytesCells w e s).size:=by
   simp only [Lib.bytesCells,Array.size_append,Array.size_map];have:k<s.data.size:=by simpa using hk
   omega
  simp;omega
theorem BytesOwn.set {w wr:World} {l:List UInt8} (h:BytesOwn w wr l) {k:Nat} (hk:k<l.length) (c:UInt8) (v:Int) (hv:v=(c.toNat:Int)):BytesOwn w (wr.setCell ⟨w.heap.size,k,none⟩ (.int .u8 v)) (l.set k c) where
 below:=h.below.setCell (Nat.le_refl _) _
 cell i d hi:=by
  subst hv;by_cases hik:i=k
  ·subst hik;rw [List.getElem?_set_self hk] at hi;cases hi;exact World.cell?_setCell_same _ _ _ (h.cell i l[i] (List.getElem?_eq_getElem hk))
  ·rw [List.getElem?_set_ne (Ne.symm hik)] at hi;rw [World.cell?_setCell_other _ _ _ _ (by intro e;cases e;exact hik rfl)];exact h.cell i d hi
 soft i hi:=by
  rw [World.frozen?_setCell];exact h.soft i (by simpa using hi)
theorem BytesOwn.bytes {w wr:World} {l:List UInt8} (h:BytesOwn w wr l):Lib.Bytes wr w.heap.size 0 ⟨l.toArray⟩:=by
 intro i hi;have hi':i<l.length:=hi;rw [Nat.zero_add];exact h.cell i l[i] (List.getElem?_eq_getElem hi')
def Jqn (x y:UInt8) (pre:List UInt8) (c:UInt8) (j r:Nat):List UInt8:=pre ++ c :: (List.replicate (r - j) x ++ List.replicate j y)
theorem Jyj {x y:UInt8} {pre:List UInt8} {c:UInt8} {j r k:Nat} (hk:k+j=pre.length+r) (hj:j<r):(Jqn x y pre c j r)[k]? = some x:=by
 unfold Jqn;obtain ⟨m,rfl⟩:∃ m,k=pre.length+(m+1):=⟨k - pre.length - 1,by omega⟩
 rw [List.getElem?_append_right (by omega),Nat.add_sub_cancel_left,List.getElem?_cons_succ,List.getElem?_append_left (by rw [List.length_replicate];omega),List.getElem?_replicate,if_pos (by omega)]
theorem Jzr {x y:UInt8} {pre:List UInt8} {c:UInt8} {j r k:Nat} (hk:k+j=pre.length+r) (hj:j<r):(Jqn x y pre c j r).set k y=Jqn x y pre c (j+1) r:=by
 unfold Jqn;obtain ⟨m,rfl⟩:∃ m,k=pre.length+(m+1):=⟨k - pre.length - 1,by omega⟩
 rw [List.set_append_right _ _ (by omega),Nat.add_sub_cancel_left,List.set_cons_succ];congr 2;obtain rfl:m=r - (j+1):=by omega
 rw [show r - j=(r - (j+1))+1 by omega,List.replicate_succ',List.append_assoc,List.set_append_right _ _ (by simp),List.length_replicate,Nat.sub_self,List.replicate_succ];rfl
theorem Jyf {x y:UInt8} {pre:List UInt8} {c:UInt8} {r:Nat}:(Jqn x y pre c r r)[pre.length]? = some c:=by
 unfold Jqn;simp
theorem J0h {x y:UInt8} {pre:List UInt8} {c d:UInt8} {r:Nat}:(Jqn x y pre c r r).set pre.length d=Jqn x y pre d r r:=by
 unfold Jqn;simp
set_option maxHeartbeats 1000000 in
set_option maxRecDepth 100000 in
theorem Kbz (s:ByteArray) (w:World) (pre:List UInt8) (c:UInt8) (r:Nat) (hs:s.data.toList=Jqn 48 57 pre c 0 r) (hc:c≠48) (h0:1≤c.toNat) (hl:s.size≤100000) :
  Calls Tryz.prog 319 #[.string s] w fun e w'=>e=.returned (.string ⟨(Jqn 48 57 pre (c - 1) r r).toArray⟩)∧Below w.heap.size w w':=by
 have hlen:s.size=pre.length+1+r:=by
  have:=congrArg List.length hs;simp [Jqn] at this;have h2:s.size=s.data.size:=rfl;omega
 have hO:BytesOwn w (Lib.bytesWorld w 5 s) (Jqn 48 57 pre c 0 r):=hs ▸ Juu w 5 s;have hcv:=Lib.run_convert_string_bytes (P:=Tryz.prog) w 9 165 5 s (u:=.string) Tryz.underlying9 Tryz.underlying165 Tryz.underlying5;obtain ⟨W1,hW1⟩:∃ W1,W1=Lib.bytesWorld w 5 s:=⟨_,rfl⟩
 obtain ⟨C1,hC1⟩:∃ C1,C1=grownCap w s.size 0 5:=⟨_,rfl⟩
 rw [← hW1,← hC1] at hcv;rw [← hW1] at hO;have HO:Hid (BytesOwn w W1 (Jqn 48 57 pre c 0 r)):=hO;have HL:Hid (s.size=pre.length+1+r):=hlen;have HS:Hid (s.data.toList=Jqn 48 57 pre c 0 r):=hs;clear hO hlen hs hW1 hC1
 go_enter Tryz.func319,Tryz.ntmps319
 go_wp2
 go_loopw [4] (fun vi wr=>∃ (k j:Nat),vi=.int .i64 (k:Int)∧Hid (k+j=pre.length+r∧j≤r)∧Hid (BytesOwn w wr (Jqn 48 57 pre c j r))) (fun vi _=>(RowKit.intOf vi).toNat)
 case atStart=>exact ⟨pre.length+r,0,congrArg (Value.int .i64) (by have:=HL.out;omega),⟨by omega,by omega⟩,HO⟩
 case round =>
  obtain ⟨k,j,rfl,hkj,hO⟩:=hrel;have hk:k<s.size:=by have:=hkj.out;have:=HL.out;omega
  have hlen:(Jqn 48 57 pre c j r).length=pre.length+1+r:=by have:=hkj.out;simp [Jqn];omega
  by_cases hjr:j<r
  ·have hget:(Jqn 48 57 pre c j r)[k]? = some 48:=Jyj (by have:=hkj.out;omega) hjr;have hset:(Jqn 48 57 pre c j r).set k 57=Jqn 48 57 pre c (j+1) r:=Jzr (by have:=hkj.out;omega) hjr;have hcl:=hO.out.cell k 48 hget;have hcl:wr.cell? ⟨w.heap.size,k,none⟩=some (.int .u8 48):=hcl;have hfz:=hO.out.soft k (by have:=hkj.out;omega);have HN:Hid (BytesOwn w (wr.setCell ⟨w.heap.size,k,none⟩ (.int .u8 57)) (Jqn 48 57 pre c (j+1) r)):=hset ▸ hO.out.set (by have:=hkj.out;omega) 57 57 rfl;have hk1:1≤k:=by have:=hkj.out;omega
   clear hget hset hlen
   go_wp2
   go_roundw
   case rel=>exact ⟨k - 1,j+1,congrArg (Value.int .i64) (by omega),⟨by have:=hkj.out;omega,by omega⟩,HN⟩
   case measure=>simp [RowKit.intOf];omega
  ·have hj:j=r:=by have:=hkj.out;omega
   subst hj;have hkp:k=pre.length:=by have:=hkj.out;omega
   subst hkp;have hcl:wr.cell? ⟨w.heap.size,pre.length,none⟩=some (.int .u8 (c.toNat:Int)):=hO.out.cell _ c Jyf;have hfz:=hO.out.soft pre.length (by omega);have hc1:¬ (c.toNat:Int)=48:=fun h=>hc (UInt8.toNat_inj.1 (by
                                       have:c.toNat=48:=by omega
                                       rw [this];rfl))
   have hsub:((c.toNat:Int) - 1)=((c - 1).toNat:Int):=by
    have:=UInt8.toNat_sub_of_le c 1 (UInt8.le_iff_toNat_le.2 h0);rw [this];show _=((c.toNat - 1:Nat):Int);omega
   have hlt:(c.toNat:Int)≤255:=by have:=c.toNat_lt;omega
   have hge:(1:Int)≤(c.toNat:Int):=by omega
   have HN:BytesOwn w (wr.setCell ⟨w.heap.size,pre.length,none⟩ (.int .u8 ((c.toNat:Int) - 1))) (Jqn 48 57 pre (c - 1) j j):=J0h (d:=c - 1) ▸ hO.out.set (by omega) (c - 1) _ hsub;have hend:=Lib.run_convert_whole (P:=Tryz.prog) (wr.setCell ⟨w.heap.size,pre.length,none⟩ (.int .u8 ((c.toNat:Int) - 1))) 165 5 9 Tryz.underlying165 Tryz.underlying5 Tryz.underlying9 w.heap.size 0 _ HN.bytes C1;have hsz:(⟨(Jqn 48 57 pre (c - 1) j j).toArray⟩:ByteArray).size=s.size:=by
    show (Jqn 48 57 pre (c - 1) j j).length=_;have:=HL.out;simp [Jqn];omega
   rw [hsz] at hend;have HB:Hid (Below w.heap.size w (wr.setCell ⟨w.heap.size,pre.length,none⟩ (.int .u8 ((c.toNat:Int) - 1)))):=HN.below;clear HN hsub hsz hlen hc h0;obtain ⟨n,hn⟩:∃ n:Int,n=(c.toNat:Int):=⟨_,rfl⟩
   rw [← hn] at hcl hc1 hend hlt hge HB;clear hn;generalize pre.length=p at *
   go_wp2
   go_ret
   exact ⟨rfl,HB⟩
set_option maxHeartbeats 1000000 in
set_option maxRecDepth 100000 in
theorem Kbo (s:ByteArray) (w:World) (pre:List UInt8) (c:UInt8) (r:Nat) (hs:48 :: s.data.toList=Jqn 57 48 pre c 0 r) (hc:c≠57) (h0:c.toNat≤254) (hl:s.size≤100000) :
  Calls Tryz.prog 318 #[.string s] w fun e w'=>e=.returned (.string ⟨(Jqn 57 48 pre (c+1) r r).toArray⟩)∧Below w.heap.size w w':=by
 have hlen:1+s.size=pre.length+1+r:=by
  have:=congrArg List.length hs;simp [Jqn] at this;have h2:s.size=s.data.size:=rfl;omega
 have hsT:(({ data:=#[48] }:ByteArray) ++ s).data.toList=Jqn 57 48 pre c 0 r:=by
  rw [← hs];simp [ByteArray.data_append]
 have hsize:(({ data:=#[48] }:ByteArray) ++ s).size=1+s.size:=by rw [ByteArray.size_append];rfl
 have hO:BytesOwn w (Lib.bytesWorld w 5 ({ data:=#[48] } ++ s)) (Jqn 57 48 pre c 0 r):=by have h:=Juu w 5 ({ data:=#[48] } ++ s);rw [hsT] at h;exact h
 have hcv:=Lib.run_convert_string_bytes (P:=Tryz.prog) w 9 165 5 ({ data:=#[48] } ++ s) (u:=.string) Tryz.underlying9 Tryz.underlying165 Tryz.underlying5;rw [hsize] at hcv;obtain ⟨W1,hW1⟩:∃ W1,W1=Lib.bytesWorld w 5 ({ data:=#[48] } ++ s):=⟨_,rfl⟩
 obtain ⟨C1,hC1⟩:∃ C1,C1=grownCap w (1+s.size) 0 5:=⟨_,rfl⟩
 rw [← hW1,← hC1] at hcv;rw [← hW1] at hO;have HO:Hid (BytesOwn w W1 (Jqn 57 48 pre c 0 r)):=hO;have HL:Hid (1+s.size=pre.length+1+r):=hlen;clear hO hlen hs hsT hsize hW1 hC1
 go_enter Tryz.func318,Tryz.ntmps318
 go_wp2
 go_loopw [4] (fun vi wr=>∃ (k j:Nat),vi=.int .i64 (k:Int)∧Hid (k+j=pre.length+r∧j≤r)∧Hid (BytesOwn w wr (Jqn 57 48 pre c j r))) (fun vi _=>(RowKit.intOf vi).toNat)
 case atStart=>exact ⟨pre.length+r,0,congrArg (Value.int .i64) (by have:=HL.out;omega),⟨by omega,by omega⟩,HO⟩
 case round =>
  obtain ⟨k,j,rfl,hkj,hO⟩:=hrel;have hk:k<1+s.size:=by have:=hkj.out;have:=HL.out;omega
  have hlen:(Jqn 57 48 pre c j r).length=pre.length+1+r:=by have:=hkj.out;simp [Jqn];omega
  by_cases hjr:j<r
  ·have hget:(Jqn 57 48 pre c j r)[k]? = some 57:=Jyj (by have:=hkj.out;omega) hjr;have hset:(Jqn 57 48 pre c j r).set k 48=Jqn 57 48 pre c (j+1) r:=Jzr (by have:=hkj.out;omega) hjr;have hcl:=hO.out.cell k 57 hget;have hcl:wr.cell? ⟨w.heap.size,k,none⟩=some (.int .u8 57):=hcl;have hfz:=hO.out.soft k (by have:=hkj.out;omega);have HN:Hid (BytesOwn w (wr.setCell ⟨w.heap.size,k,none⟩ (.int .u8 48)) (Jqn 57 48 pre c (j+1) r)):=hset ▸ hO.out.set (by have:=hkj.out;omega) 48 48 rfl;have hk1:1≤k:=by have:=hkj.out;omega
   clear hget hset hlen
   go_wp2
   go_roundw
   case rel=>exact ⟨k - 1,j+1,congrArg (Value.int .i64) (by omega),⟨by have:=hkj.out;omega,by omega⟩,HN⟩
   case measure=>simp [RowKit.intOf];omega
  ·have hj:j=r:=by have:=hkj.out;omega
   subst hj;have hkp:k=pre.length:=by have:=hkj.out;omega
   subst hkp;have hcl:wr.cell? ⟨w.heap.size,pre.length,none⟩=some (.int .u8 (c.toNat:Int)):=hO.out.cell _ c Jyf;have hfz:=hO.out.soft pre.length (by omega);have hc1:¬ (c.toNat:Int)=57:=fun h=>hc (UInt8.toNat_inj.1 (by
                                       have:c.toNat=57:=by omega
                                       rw [this];rfl))
   have hsub:((c.toNat:Int)+1)=((c+1).toNat:Int):=by
    rw [UInt8.toNat_add];show _=(((c.toNat+1) % 256:Nat):Int);omega
   have hlt:(c.toNat:Int)≤254:=by omega
   have hge:(0:Int)≤(c.toNat:Int):=by omega
   have HN:BytesOwn w (wr.setCell ⟨w.heap.size,pre.length,none⟩ (.int .u8 ((c.toNat:Int)+1))) (Jqn 57 48 pre (c+1) j j):=J0h (d:=c+1) ▸ hO.out.set (by omega) (c+1) _ hsub;have hend:=Lib.run_convert_whole (P:=Tryz.prog) (wr.setCell ⟨w.heap.size,pre.length,none⟩ (.int .u8 ((c.toNat:Int)+1))) 165 5 9 Tryz.underlying165 Tryz.underlying5 Tryz.underlying9 w.heap.size 0 _ HN.bytes C1;have hsz:(⟨(Jqn 57 48 pre (c+1) j j).toArray⟩:ByteArray).size=1+s.size:=by
    show (Jqn 57 48 pre (c+1) j j).length=_;have:=HL.out;simp [Jqn];omega
   rw [hsz] at hend;have HB:Hid (Below w.heap.size w (wr.setCell ⟨w.heap.size,pre.length,none⟩ (.int .u8 ((c.toNat:Int)+1)))):=HN.below;clear HN hsub hsz hlen hc h0;obtain ⟨n,hn⟩:∃ n:Int,n=(c.toNat:Int):=⟨_,rfl⟩
   rw [← hn] at hcl hc1 hend hlt hge HB;clear hn;generalize pre.length=p at *
   go_wp2
   go_ret
   exact ⟨rfl,HB⟩
end Go.LX
namespace Go.LX
open Go
theorem Jwo (x y:UInt8) (f:UInt8→UInt8) (g:List UInt8→List UInt8) (h0:g []=[]) (h1:∀ c r,g (c :: r)=if c=x then y :: g r else f c :: r) :
  ∀ l:List UInt8,(∃ c∈l,c≠x)→∃ pre c r,l.reverse=Jqn x y pre c 0 r∧c≠x∧c∈l∧(g l).reverse=Jqn x y pre (f c) r r
 | [],⟨_,h,_⟩=>by simp at h
 | a :: t,⟨d,hd,hx⟩=>by
  by_cases ha:a=x
  ·subst ha;have hd':d∈t:=by
    rcases List.mem_cons.1 hd with h | h
    ·exact absurd h hx
    ·exact h
   obtain ⟨pre,c,r,e1,e2,e3,e4⟩:=Jwo a y f g h0 h1 t ⟨d,hd',hx⟩;refine ⟨pre,c,r+1,?_,e2,List.mem_cons_of_mem _ e3,?_⟩
   ·rw [List.reverse_cons,e1];simp [Jqn,List.replicate_succ']
   ·rw [h1,if_pos rfl,List.reverse_cons,e4];simp [Jqn,List.replicate_succ']
  ·refine ⟨t.reverse,a,0,by simp [Jqn],ha,by simp,?_⟩;rw [h1,if_neg ha];simp [Jqn]
theorem J6g (s:List UInt8) (h:∃ c∈s,c≠48):∃ pre c r,s=Jqn 48 57 pre c 0 r∧c≠48∧c∈s∧J1p s=Jqn 48 57 pre (c - 1) r r:=by
 obtain ⟨d,hd,hx⟩:=h;obtain ⟨pre,c,r,h1,h2,h3,h4⟩:=Jwo 48 57 (fun c=>c - 1) decR rfl (fun _ _=>rfl) s.reverse ⟨d,by simpa using hd,hx⟩;exact ⟨pre,c,r,by simpa using h1,h2,by simpa using h3,h4⟩
theorem J6e (s:List UInt8):∃ pre c r,48 :: s=Jqn 57 48 pre c 0 r∧c≠57∧c∈48 :: s∧J2k s=Jqn 57 48 pre (c+1) r r:=by
 obtain ⟨pre,c,r,h1,h2,h3,h4⟩:=Jwo 57 48 (fun c=>c+1) incR rfl (fun _ _=>rfl) (48 :: s).reverse ⟨48,by simp,by decide⟩;exact ⟨pre,c,r,by simpa using h1,h2,List.mem_reverse.1 h3,h4⟩
end Go.LX
set_option maxRecDepth 100000
set_option maxHeartbeats 2000000
namespace Go.LX
open Go Go.RowKit Go.Proofs
attribute [local irreducible] Al SWP Bi
theorem d_more (s:List UInt8) (hs:s.length≤10000) (hd:∀ c∈s,c≤57):Det cx 318 [.p (.str s)] [] (.p (.str (J2k s))) []:=by
 obtain ⟨pre,c,r,h1,h2,h3,h4⟩:=J6e s;rw [h4];refine Jsz (enters_of Tryz.func318 krf rfl) fun β Im w vs hg hf=>?_
 obtain ⟨v,rfl,hv⟩:=fit1 hf;cases Ks hv;have hc:c.toNat≤254:=by
  rcases List.mem_cons.1 h3 with h | h
  ·subst h;decide
  ·have:=UInt8.le_iff_toNat_le.1 (hd c h);have e:(57:UInt8).toNat=57:=rfl;omega
 refine (Kbo ⟨⟨s⟩⟩ w pre c r h1 h2 hc (by show s.length≤_;omega)).mono fun e w' ⟨h,hb⟩=>⟨⟨_,h,fun β w Im=>PRep.str _⟩,hb⟩
theorem d_less (s:List UInt8) (hs:s.length≤10000) (h0:∃ c∈s,c≠48) (hd:∀ c∈s,48≤c):Det cx 319 [.p (.str s)] [] (.p (.str (J1p s))) []:=by
 obtain ⟨pre,c,r,h1,h2,h3,h4⟩:=J6g s h0;rw [h4];refine Jsz (enters_of Tryz.func319 krf rfl) fun β Im w vs hg hf=>?_
 obtain ⟨v,rfl,hv⟩:=fit1 hf;cases Ks hv;have hc:1≤c.toNat:=by
  have:=UInt8.le_iff_toNat_le.1 (hd c h3);have e:(48:UInt8).toNat=48:=rfl;omega
 refine (Kbz ⟨⟨s⟩⟩ w pre c r h1 h2 hc (by show s.length≤_;omega)).mono fun e w' ⟨h,hb⟩=>⟨⟨_,h,fun β w Im=>PRep.str _⟩,hb⟩
theorem Kb1 (n:Node) (e:Int) (hn:n.s.length≤1000) (h1:-1000≤n.e) (h2:n.e≤1000) (h3:-3000≤e) (h4:e≤3000):Det cx 317 [.p (.agg [.int .i64 n.kind,.int .i64 n.many,.str n.name,.str n.s,.bool n.neg,.int .i64 n.e]),.p (.int .i64 e)] [] (.p (.str (Jsf n e))) []:=by
 (refine bgo Tryz.func317 ?_;simp only [go_sem,simprocAttr]);refine SWP.loop (fun j:Nat=>⟨Ba 19 [(1,.p (.int .i64 e)),(2,.ptr 2 0 0),(5,.p (.str (n.s ++ List.replicate j 48))),(6,.p (.int .i64 (e+j)))],[(2,.var 29 [.p (.int .i64 n.kind),.p (.int .i64 n.many),.p (.str n.name),.p (.str n.s),.p (.bool n.neg),.p (.int .i64 n.e)])]⟩) (fun j=>j≤(n.e - e).toNat) (fun j=>(n.e - e).toNat - j) 0 (by rw [List.replicate_zero,List.append_nil,show e+((0:Nat):Int)=e by omega];exact Jqb) (Nat.zero_le _) ?_;rintro j hj;by_cases hlt:j<(n.e - e).toNat
 ·have c1:(e+(j:Int)<n.e)=True:=eq_true omg;have w1:IntKind.i64.wrap (e+(j:Int)+1)=e+((j+1:Nat):Int):=by rw [Aa omg omg];omega
  have hcat:n.s ++ List.replicate j 48 ++ [48]=n.s ++ List.replicate (j+1) 48:=by rw [List.replicate_succ',List.append_assoc]
  (refine lws ?_;simp only [go_sem,simprocAttr,c1,w1,hcat]);exact ⟨by simp;omega,j+1,by omega,by omega,Jqb⟩
 ·have c1:(e+(j:Int)<n.e)=False:=eq_false omg;have hjj:(n.e - e).toNat=j:=by omega
  unfold Jsf;rw [hjj];(refine lws ?_;simp only [go_sem,simprocAttr,c1])
  skip
def besL (o:Option Node):L:=match o with
 | some m=>.tup [.agg [.int .i64 m.kind,.int .i64 m.many,.str m.name,.str m.s,.bool m.neg,.int .i64 m.e],.bool true]
 | none=>.tup [.agg [.int .i64 0,.int .i64 0,.str [],.str [],.bool false,.int .i64 0],.bool false]
theorem J3o (n:Node) (e:Int):(Jsf n e).length=n.s.length+(n.e - e).toNat:=by simp [Jsf]
theorem J33 (n:Node) (a:Bool) (hk:n.kind=3) (hp:Jrb n):Det cx 287 [.p (.agg [.int .i64 n.kind,.int .i64 n.many,.str n.name,.str n.s,.bool n.neg,.int .i64 n.e]),.p (.bool a)] [] (besL (Jr6 n a)) []:=by
 have hnr:Yz n.s n.neg n.e:=Jtc hp.2.2 hk;obtain ⟨f0,f1,f2,f3,f4,f5⟩:=hnr;by_cases hs0:n.s=[]
 ·have c1:=eq_true hs0;rw [show Jr6 n a=some ⟨3,0,[],[49],!a,-1000⟩ from if_pos hs0];simp only [besL];(refine bgo Tryz.func287 ?_;simp only [go_sem,simprocAttr,c1])
  skip
 ·have c1:=eq_false hs0;rw [show Jr6 n a=(if (make n.neg (Js0 n a) (Jq5 n a)).2=0 then some (make n.neg (Js0 n a) (Jq5 n a)).1 else none) from if_neg hs0];have htop:-1001≤topR n a∧topR n a≤1100:=by unfold topR;split <;> omega
  have hle:-1000≤Jq5 n a∧Jq5 n a≤1000:=by unfold Jq5;omega
  have hP:=Kb1 n (Jq5 n a) omg f2 f3 omg omg;have hplen:=J3o n (Jq5 n a);have hfig:∀ c∈Jsf n (Jq5 n a),48≤c∧c≤57:=by
   intro c hc;unfold Jsf at hc;rcases List.mem_append.1 hc with h | h
   ·have:=List.all_eq_true.1 f0 c h;simp only [Ja8,Bool.and_eq_true,decide_eq_true_eq] at this;exact ⟨UInt8.le_iff_toNat_le.2 this.1,UInt8.le_iff_toNat_le.2 this.2⟩
   ·rw [List.eq_of_mem_replicate h];exact ⟨by decide,by decide⟩
  have hM:=d_more (Jsf n (Jq5 n a)) omg (fun c h=>(hfig c h).2);have hL:=d_less (Jsf n (Jq5 n a)) omg (by
   rw [if_neg hs0] at f5;have hpos:0<n.s.length:=by
    cases h:n.s with
    | nil=>exact absurd h hs0
    | cons=>simp
   refine ⟨n.s[0],by unfold Jsf;exact List.mem_append_left _ (List.getElem_mem hpos),fun h=>f5.1 ?_⟩;rw [Ql hpos,h];rfl) (fun c h=>(hfig c h).1)
  have hslen:(Js0 n a).length≤1000000:=by
   unfold Js0;split
   ·rw [J8c];omega
   ·rw [J84];omega
  have hK:=J7p n.neg (Js0 n a) (Jq5 n a) hslen;rw [Js3] at hK;have w1:IntKind.i64.wrap ((n.s.length:Int)+n.e)=(n.s.length:Int)+n.e:=Aa omg omg;have w2:IntKind.i64.wrap ((n.s.length:Int)+n.e - 1)=(n.s.length:Int)+n.e - 1:=Aa omg omg;have w3:IntKind.i64.wrap ((n.s.length:Int)+n.e - 100)=(n.s.length:Int)+n.e - 100:=Aa omg omg;have w4:IntKind.i64.wrap ((n.s.length:Int)+n.e - 1 - 100)=(n.s.length:Int)+n.e - 1 - 100:=Aa omg omg;by_cases hg:n.neg=a
  ·have c2:=eq_true hg;have hst:Js0 n a=J1p (Jsf n (Jq5 n a)):=if_neg (by rw [hg];simp);rw [hst] at hK hslen ⊢;by_cases h49:n.s=[49]
   ·have c3:=eq_true h49;have hE:max ((n.s.length:Int)+n.e - 1 - 100) (-1000)=Jq5 n a:=by unfold Jq5 topR;rw [if_pos ⟨by rw [hg];simp,h49⟩]
    generalize Jq5 n a=E at *
    (refine bgo Tryz.func287 ?_;simp only [go_sem,simprocAttr,c1,c2,c3,w1,w2,w4,hE]);(repeat' (first | (apply iteI <;> intro h)|((first | (refine Jqa (hP) ?_)|(refine Jqa (hL) ?_)|(refine Jqa (hK) ?_));simp only [go_sem,simprocAttr,c2]) | fail))
    all_goals (first | (rw [if_pos (Classical.not_not.1 h)];rfl)|(rw [if_neg h];rfl))
   ·have c3:=eq_false h49;have hE:max ((n.s.length:Int)+n.e - 100) (-1000)=Jq5 n a:=by unfold Jq5 topR;rw [if_neg (fun h=>h49 h.2)]
    generalize Jq5 n a=E at *
    (refine bgo Tryz.func287 ?_;simp only [go_sem,simprocAttr,c1,c2,c3,w1,w3,hE]);(repeat' (first | (apply iteI <;> intro h)|((first | (refine Jqa (hP) ?_)|(refine Jqa (hL) ?_)|(refine Jqa (hK) ?_));simp only [go_sem,simprocAttr,c2]) | fail))
    all_goals (first | (rw [if_pos (Classical.not_not.1 h)];rfl)|(rw [if_neg h];rfl))
  ·have c2:=eq_false hg;have hst:Js0 n a=J2k (Jsf n (Jq5 n a)):=if_pos (by simpa using hg);rw [hst] at hK hslen ⊢;have hE:max ((n.s.length:Int)+n.e - 100) (-1000)=Jq5 n a:=by unfold Jq5 topR;rw [if_neg (fun h=>hg (by simpa using h.1))]
   generalize Jq5 n a=E at *
   (refine bgo Tryz.func287 ?_;simp only [go_sem,simprocAttr,c1,c2,w1,w3,hE]);(repeat' (first | (apply iteI <;> intro h)|((first | (refine Jqa (hP) ?_)|(refine Jqa (hM) ?_)|(refine Jqa (hK) ?_));simp only [go_sem,simprocAttr,c2]) | fail))
   all_goals (first | (rw [if_pos (Classical.not_not.1 h)];rfl)|(rw [if_neg h];rfl))
theorem J59 {l:List (Int×Node)} {i:Nat} {a:Int×Node} (h:l[i]? = some a):Jq7 (l.take (i+1))=Jq7 (l.take i) ++ numC a:=by
 unfold Jq7;rw [List.take_add_one,h];simp
theorem J9u (a:Int×Node):(numC a).length≤3:=by
 unfold numC;split
 ·cases Jr6 a.2 true <;> cases Jr6 a.2 false <;> simp
 ·simp
theorem J1l (l:List (Int×Node)):(Jq7 l).length≤4+3 * l.length:=by
 unfold Jq7;simp only [List.length_append,List.length_cons,List.length_nil];have:∀ l:List (Int×Node),(l.flatMap numC).length≤3 * l.length:=by
  intro l
  induction l with
  | nil=>simp
  | cons a l ih=>have:=J9u a;simp only [List.flatMap_cons,List.length_append,List.length_cons];omega
 have:=this l;omega
def Jsc (l:List (Int×Node)) (i:Nat):List Node:=Jq7 l ++ [Ju6 4] ++ (l.take i).flatMap strC
theorem J6q {l:List (Int×Node)} {i:Nat} {a:Int×Node} (h:l[i]? = some a):Jsc l (i+1)=Jsc l i ++ strC a:=by
 unfold Jsc;rw [List.take_add_one,h];simp
theorem Kbs (a:Int×Node):(strC a).length≤2:=by unfold strC;split <;> simp
theorem J1m (l:List (Int×Node)) (i:Nat):(Jsc l i).length≤5+3 * l.length+2 * i:=by
 unfold Jsc;have h1:=J1l l;have:∀ l:List (Int×Node),(l.flatMap strC).length≤2 * l.length:=by
  intro l
  induction l with
  | nil=>simp
  | cons a l ih=>have:=Kbs a;simp only [List.flatMap_cons,List.length_append,List.length_cons];omega
 have h2:=this (l.take i);have h3:(l.take i).length≤i:=List.length_take_le _ _;simp only [List.length_append,List.length_cons,List.length_nil];omega
theorem J3i (l:List (Int×Node)) (hl:l.length≤100000) (ha:∀ a∈l,Jrb a.2∧a.2.s.length≤1000000):Det cx 246 [.p (.sl (Jrg l))] [] (.p (.sl (valL (Js9 l)))) []:=by
 (refine bgo Tryz.func246 ?_;simp only [go_sem,simprocAttr]);refine SWP.loop (fun i:Nat=>⟨Ba 98 [(0,.p (.sl (Jrg l))),(3,.own 14 0 (Jq7 (l.take i)).length),(4,.p (.int .i64 i))],[(14,.row 29 6 (valL (Jq7 (l.take i))))]⟩) (fun i=>i≤l.length) (fun i=>l.length - i) 0 (by rw [show valL (Jq7 (l.take 0))=[[.int .i64 0,.int .i64 0,.str [],.str [],.bool false,.int .i64 0],[.int .i64 1,.int .i64 0,.str [],.str [],.bool false,.int .i64 0],[.int .i64 2,.int .i64 0,.str [],.str [],.bool false,.int .i64 0],[.int .i64 3,.int .i64 0,.str [],.str [],.bool false,.int .i64 0]] from rfl,show (Jq7 (l.take 0)).length=4 from rfl];exact Jqb) (Nat.zero_le _) ?_;rintro i hi;have hcl:=J1l (l.take i);rw [List.length_take,Nat.min_eq_left hi] at hcl;have hpl:(valL (Jq7 (l.take i))).length=(Jq7 (l.take i)).length:=A7 _;have hle0:((Jq7 (l.take i)).length≤(Jq7 (l.take i)).length)=True:=eq_true (Nat.le_refl _);by_cases hlt:i<l.length
 ·have c1:((i:Int)<(l.length:Int))=True:=eq_true omg;obtain ⟨a,hq⟩:∃ a,l[i]? = some a:=⟨_,List.getElem?_eq_getElem hlt⟩
  have hg:=Jvq hq;have hap:=(ha a (List.mem_of_getElem? hq)).1;have htk:=J59 hq;have w1:IntKind.i64.wrap ((i:Int)+1)=((i+1:Nat):Int):=by rw [Aa omg omg];omega
  by_cases hk:a.2.kind=3
  ·have c2:=eq_true hk;have hB1:=J33 a.2 true hk hap;have hB2:=J33 a.2 false hk hap;have hnc:numC a=a.2 :: ((Jr6 a.2 true).toList ++ (Jr6 a.2 false).toList):=if_pos hk;rw [hnc] at htk;cases h1:Jr6 a.2 true with
   | none =>
    cases h2:Jr6 a.2 false with
    | none =>
     rw [h1] at hB1;rw [h2] at hB2;rw [h1,h2] at htk;simp only [besL] at hB1 hB2;have e1:valL (Jq7 (l.take i) ++ (a.2 :: ((none:Option Node).toList ++ (none:Option Node).toList)))=valL (Jq7 (l.take i)) ++ [[.int .i64 a.2.kind,.int .i64 a.2.many,.str a.2.name,.str a.2.s,.bool a.2.neg,.int .i64 a.2.e]]:=by simp [valL,Node.cells]
     have e2:(Jq7 (l.take i) ++ (a.2 :: ((none:Option Node).toList ++ (none:Option Node).toList))).length=(Jq7 (l.take i)).length+1:=by simp
     (refine lws ?_;simp only [go_sem,simprocAttr,Jqx,c1,c2,hg,hpl]);(repeat' (first | (refine And.intro (by first | (simp;done)|(simp;omega)) ?_)|(refine Jqe ?_)|((first | (refine Jqa (hB1) ?_)|(refine Jqa (hB2) ?_));simp only [go_sem,simprocAttr,hg,w1]) | fail));refine ⟨i+1,by omega,by omega,?_⟩;rw [htk];refine (B1 [(35,14)] _ sm).trans ?_;simp only [go_sem,simprocAttr];rw [e1,e2];exact Jqb
    | some q =>
     rw [h1] at hB1;rw [h2] at hB2;rw [h1,h2] at htk;simp only [besL] at hB1 hB2;have e1:valL (Jq7 (l.take i) ++ (a.2 :: ((none:Option Node).toList ++ (some q).toList)))=valL (Jq7 (l.take i)) ++ [[.int .i64 a.2.kind,.int .i64 a.2.many,.str a.2.name,.str a.2.s,.bool a.2.neg,.int .i64 a.2.e]] ++ [[.int .i64 q.kind,.int .i64 q.many,.str q.name,.str q.s,.bool q.neg,.int .i64 q.e]]:=by simp [valL,Node.cells]
     have e2:(Jq7 (l.take i) ++ (a.2 :: ((none:Option Node).toList ++ (some q).toList))).length=(Jq7 (l.take i)).length+1+1:=by simp
     (refine lws ?_;simp only [go_sem,simprocAttr,Jqx,c1,c2,hg,hpl]);(repeat' (first | (refine And.intro (by first | (simp;done)|(simp;omega)) ?_)|(refine Jqe ?_)|((first | (refine Jqa (hB1) ?_)|(refine Jqa (hB2) ?_));simp only [go_sem,simprocAttr,hg,w1]) | fail));refine ⟨i+1,by omega,by omega,?_⟩;rw [htk];refine (B1 [(63,14)] _ sm).trans ?_;simp only [go_sem,simprocAttr];rw [e1,e2];exact Jqb
   | some m =>
    cases h2:Jr6 a.2 false with
    | none =>
     rw [h1] at hB1;rw [h2] at hB2;rw [h1,h2] at htk;simp only [besL] at hB1 hB2;have e1:valL (Jq7 (l.take i) ++ (a.2 :: ((some m).toList ++ (none:Option Node).toList)))=valL (Jq7 (l.take i)) ++ [[.int .i64 a.2.kind,.int .i64 a.2.many,.str a.2.name,.str a.2.s,.bool a.2.neg,.int .i64 a.2.e]] ++ [[.int .i64 m.kind,.int .i64 m.many,.str m.name,.str m.s,.bool m.neg,.int .i64 m.e]]:=by simp [valL,Node.cells]
     have e2:(Jq7 (l.take i) ++ (a.2 :: ((some m).toList ++ (none:Option Node).toList))).length=(Jq7 (l.take i)).length+1+1:=by simp
     (refine lws ?_;simp only [go_sem,simprocAttr,Jqx,c1,c2,hg,hpl]);(repeat' (first | (refine And.intro (by first | (simp;done)|(simp;omega)) ?_)|(refine Jqe ?_)|((first | (refine Jqa (hB1) ?_)|(refine Jqa (hB2) ?_));simp only [go_sem,simprocAttr,hg,w1]) | fail));refine ⟨i+1,by omega,by omega,?_⟩;rw [htk];refine (B1 [(49,14)] _ sm).trans ?_;simp only [go_sem,simprocAttr];rw [e1,e2];exact Jqb
    | some q =>
     rw [h1] at hB1;rw [h2] at hB2;rw [h1,h2] at htk;simp only [besL] at hB1 hB2;have e1:valL (Jq7 (l.take i) ++ (a.2 :: ((some m).toList ++ (some q).toList)))=valL (Jq7 (l.take i)) ++ [[.int .i64 a.2.kind,.int .i64 a.2.many,.str a.2.name,.str a.2.s,.bool a.2.neg,.int .i64 a.2.e]] ++ [[.int .i64 m.kind,.int .i64 m.many,.str m.name,.str m.s,.bool m.neg,.int .i64 m.e]] ++ [[.int .i64 q.kind,.int .i64 q.many,.str q.name,.str q.s,.bool q.neg,.int .i64 q.e]]:=by simp [valL,Node.cells]
     have e2:(Jq7 (l.take i) ++ (a.2 :: ((some m).toList ++ (some q).toList))).length=(Jq7 (l.take i)).length+1+1+1:=by simp
     (refine lws ?_;simp only [go_sem,simprocAttr,Jqx,c1,c2,hg,hpl]);(repeat' (first | (refine And.intro (by first | (simp;done)|(simp;omega)) ?_)|(refine Jqe ?_)|((first | (refine Jqa (hB1) ?_)|(refine Jqa (hB2) ?_));simp only [go_sem,simprocAttr,hg,w1]) | fail));refine ⟨i+1,by omega,by omega,?_⟩;rw [htk];refine (B1 [(63,14)] _ sm).trans ?_;simp only [go_sem,simprocAttr];rw [e1,e2];exact Jqb
  ·have c2:=eq_false hk;have hnc:numC a=[]:=if_neg hk;rw [hnc,List.append_nil] at htk;(refine lws ?_;simp only [go_sem,simprocAttr,Jqx,c1,c2,hg,w1]);refine ⟨i+1,by omega,by omega,?_⟩;rw [htk];exact Jqb
 ·have hil:i=l.length:=by omega
  subst hil;have c1:((l.length:Int)<(l.length:Int))=False:=eq_false omg;rw [List.take_length] at *
  (refine lws ?_;simp only [go_sem,simprocAttr,Jqx,c1,hpl]);(repeat' (first | (refine And.intro (by first | (simp;done)|(simp;omega)) ?_)|(refine Jqe ?_) | fail));refine SWP.loop (fun i:Nat=>⟨Ba 98 [(0,.p (.sl (Jrg l))),(3,.own 67 0 (Jsc l i).length),(9,.p (.int .i64 i))],[(67,.row 29 6 (valL (Jsc l i)))]⟩) (fun i=>i≤l.length) (fun i=>l.length - i) 0 (by rw [show valL (Jsc l 0)=valL (Jq7 l) ++ [[.int .i64 4,.int .i64 0,.str [],.str [],.bool false,.int .i64 0]] by simp [Jsc,valL,Ju6,Node.cells],show (Jsc l 0).length=(Jq7 l).length+1 by simp [Jsc]];exact Jqb) (Nat.zero_le _) ?_;rintro i hi;have hcl:=J1m l i;have hpl:(valL (Jsc l i)).length=(Jsc l i).length:=A7 _;have hle0:((Jsc l i).length≤(Jsc l i).length)=True:=eq_true (Nat.le_refl _);by_cases hlt:i<l.length
  ·have c1:((i:Int)<(l.length:Int))=True:=eq_true omg;obtain ⟨a,hq⟩:∃ a,l[i]? = some a:=⟨_,List.getElem?_eq_getElem hlt⟩
   have hg:=Jvq hq;have htk:=J6q hq;have hsl:=(ha a (List.mem_of_getElem? hq)).2;have w1:IntKind.i64.wrap ((i:Int)+1)=((i+1:Nat):Int):=by rw [Aa omg omg];omega
   by_cases hk:a.2.kind=4
   ·have c2:=eq_true hk;have hnc:strC a=[a.2,⟨4,0,[],a.2.s ++ [0],false,0⟩]:=if_pos hk;rw [hnc] at htk;have e1:valL (Jsc l i ++ [a.2,⟨4,0,[],a.2.s ++ [0],false,0⟩])=valL (Jsc l i) ++ [[.int .i64 a.2.kind,.int .i64 a.2.many,.str a.2.name,.str a.2.s,.bool a.2.neg,.int .i64 a.2.e],[.int .i64 4,.int .i64 0,.str [],.str (a.2.s ++ [0]),.bool false,.int .i64 0]]:=by simp [valL,Node.cells]
    have e2:(Jsc l i ++ [a.2,⟨4,0,[],a.2.s ++ [0],false,0⟩]).length=(Jsc l i).length+2:=by simp
    (refine lws ?_;simp only [go_sem,simprocAttr,Jqx,c1,c1,c2,hg]);(refine Gi 15 hm krf krf ?_;simp only [go_sem,simprocAttr,hpl,hg,hpl,w1]);(repeat' (first | (refine And.intro (by first | omega | (simp;done)|(simp;omega)) ?_) | fail));refine ⟨i+1,by omega,by omega,?_⟩;rw [htk];refine (B1 [(96,67)] _ sm).trans ?_;simp only [go_sem,simprocAttr];rw [e1,e2];exact Jqb
   ·have c2:=eq_false hk;have hnc:strC a=[]:=if_neg hk;rw [hnc,List.append_nil] at htk;(refine lws ?_;simp only [go_sem,simprocAttr,Jqx,c1,c1,c2,hg,w1]);refine ⟨i+1,by omega,by omega,?_⟩;rw [htk];exact Jqb
  ·have hil:i=l.length:=by omega
   subst hil;have c1:((l.length:Int)<(l.length:Int))=False:=eq_false omg;have hR:Jsc l l.length=Js9 l:=by unfold Jsc Js9;rw [List.take_length]
   rw [hR] at hcl hpl hle0 ⊢;have htk:(valL (Js9 l)).take (Js9 l).length=valL (Js9 l):=List.take_of_length_le (by rw [A7];exact Nat.le_refl _);(refine lws ?_;simp only [go_sem,simprocAttr,Jqx,c1,hpl,hle0,c1,hpl,hle0,htk])
   skip
theorem J88 {n:Node} (h:Jrb n) (hs:n.s.length≤500):CandFit n:=by
 obtain ⟨h1,h2,h3⟩:=h;unfold G3 at h3;by_cases g1:n.kind=0∨n.kind=1∨n.kind=2
 ·rw [if_pos g1] at h3;exact ⟨by omega,h2,by omega,by omega⟩
 ·rw [if_neg g1] at h3;by_cases g2:n.kind=3
  ·rw [if_pos g2] at h3;obtain ⟨_,_,_,k1,k2,_⟩:=h3;exact ⟨by omega,h2,k1,k2⟩
  ·rw [if_neg g2] at h3;by_cases g3:n.kind=4
   ·rw [if_pos g3] at h3;exact ⟨by omega,h2,by omega,by omega⟩
   ·rw [if_neg g3] at h3;by_cases g4:n.kind=5∨n.kind=6
    ·omega
    ·rw [if_neg g4] at h3;exact h3.elim
theorem J8s {c:List Node} {p:Node→Bool} {i:Nat} {n:Node} (h:c[i]? = some n):(c.drop i).find? p=if p n=true then some n else (c.drop (i+1)).find? p:=by
 have hi:=(List.getElem?_eq_some_iff.1 h).1;rw [List.drop_eq_getElem_cons hi,List.find?_cons];have:c[i]=n:=by rw [List.getElem?_eq_getElem hi] at h;exact Option.some.inj h
 rw [this];cases p n <;> simp
theorem J8z (l:List (Int×Node)):(Js9 l).length≤5+5 * l.length:=by
 have h:=J1m l l.length;have hR:Jsc l l.length=Js9 l:=by unfold Jsc Js9;rw [List.take_length]
 rw [hR] at h;omega
theorem d_Least (m:Nat) (l:List (Int×Node)) (hmk:m≤1000) (hl:l.length≤100000) (ha:∀ a∈l,Jrn a.1 a.2∧a.2.s.length≤500):Det cx 198 [.p (.int .i64 m),.p (.sl (Jrg l))] [] (besL ((Js9 l).find? (Jq1 m l))) []:=by
 have hC:=J3i l hl (fun a h=>⟨(ha a h).1.2.2,by have:=(ha a h).2;omega⟩);have hfit:∀ n∈Js9 l,CandFit n:=fun n hn=>Kb4 (fun a h=>⟨J88 (ha a h).1.2.2 (ha a h).2,(ha a h).2⟩) hn
 have hlen:=J8z l;generalize Js9 l=c at *
 (refine bgo Tryz.func198 ?_;simp only [go_sem,simprocAttr]);(repeat' (first | ((refine Jqa (hC) ?_);simp only [go_sem,simprocAttr]) | fail));refine SWP.loop (fun i:Nat=>⟨Ba 28 [(0,.p (.int .i64 m)),(1,.p (.sl (Jrg l))),(4,.ptr 4 0 0),(6,.p (.sl (valL c))),(7,.p (.int .i64 i))],[(4,.var 29 [.p (.int .i64 0),.p (.int .i64 0),.p (.str []),.p (.str []),.p (.bool false),.p (.int .i64 0)])]⟩) (fun i=>i≤c.length∧c.find? (Jq1 m l)=(c.drop i).find? (Jq1 m l)) (fun i=>c.length - i) 0 Jqb ⟨Nat.zero_le _,rfl⟩ ?_;rintro i ⟨hi,hf⟩;rw [hf];by_cases hlt:i<c.length
 ·have c1:((i:Int)<(c.length:Int))=True:=eq_true omg;obtain ⟨n,hq⟩:∃ n,c[i]? = some n:=⟨_,List.getElem?_eq_getElem hlt⟩
  have hg:=U5 hq;have hn:=hfit n (List.mem_of_getElem? hq);have hM:=J3t m l n hmk omg (fun a h=>(ha a h).1) ⟨by have:=hn.s;omega,by rw [hn.name];simp,by have:=hn.e0;omega,by have:=hn.e1;omega⟩;have w1:IntKind.i64.wrap ((i:Int)+1)=((i+1:Nat):Int):=by rw [Aa omg omg];omega
  rw [J8s hq];cases hb:Jq1 m l n with
  | true =>
   rw [hb] at hM;(refine lws ?_;simp only [go_sem,simprocAttr,c1,hg,A7]);(repeat' (first | ((refine Jqa (hM) ?_);simp only [go_sem,simprocAttr,hg]) | fail));rfl
  | false =>
   rw [hb] at hM;(refine lws ?_;simp only [go_sem,simprocAttr,c1,hg,A7]);(repeat' (first | ((refine Jqa (hM) ?_);simp only [go_sem,simprocAttr,w1]) | fail));exact ⟨i+1,⟨by omega,rfl⟩,by omega,Jqb⟩
 ·have hil:i=c.length:=by omega
  subst hil;have c1:((c.length:Int)<(c.length:Int))=False:=eq_false omg;rw [List.drop_length];(refine lws ?_;simp only [go_sem,simprocAttr,c1,A7]);rfl
def J0o (l:List YRow):List (Int×Node):=l.map fun r=>(r.n,r.c)
def Jq4 (v:List YRow) (i m:Nat):List (Int×Node):=J0o ((v.drop (i+1)).take m)
theorem Ju7 {v:List YRow} {i m:Nat} (h:i+m<v.length):(Jq4 v i m).length=m:=by
 simp [Jq4,J0o];omega
theorem Jyg {v:List YRow} {i m j:Nat} {q:YRow} (h:v[i+1+j]? = some q) (hj:j<m):(Jq4 v i m)[j]? = some (q.n,q.c):=by
 simp only [Jq4,J0o,List.getElem?_map,List.getElem?_take,if_pos hj,List.getElem?_drop,h,Option.map_some]
theorem J78 (v:List YRow) (i m:Nat) (r:YRow) (hr:v[i]? = some r) (hk:r.kind=1) (hrm:r.many=(m:Int)) (hb:i+m<v.length) (hv:v.length≤999999):Det cx 145 [.p (.sl (rowL v)),.p (.int .i64 i)] [] (.p (.sl (Jrg (Jq4 v i m)))) []:=by
 have hg0:=Jue hr;rw [hk,hrm] at hg0;have hal:=Ju7 hb;have w0:IntKind.i64.wrap ((i:Int)+1)=((i+1:Nat):Int):=by rw [Aa omg omg];omega
 (refine bgo Tryz.func145 ?_;simp only [go_sem,simprocAttr,w0]);refine Jq0 (B1 [(7,42)] _ sm) ?_;simp only [go_sem,simprocAttr];refine SWP.loop (fun j:Nat=>⟨Ba 44 [(0,.p (.sl (rowL v))),(1,.p (.int .i64 i)),(5,.own 42 0 j),(6,.p (.int .i64 (i+1+j:Nat)))],[(42,.row 118 7 (Jrg ((Jq4 v i m).take j)))]⟩) (fun j=>j≤m) (fun j=>m - j) 0 (by rw [show Jrg (List.take 0 (Jq4 v i m))=[] from rfl];exact Jqb) (Nat.zero_le _) ?_;rintro j hj;have w3:IntKind.i64.wrap ((i:Int)+(m:Int))=((i+m:Nat):Int):=by rw [Aa omg omg];omega
 by_cases hlt:¬ j<m
 ·have hi2:j=m:=by omega
  subst hi2;have c1:(((i+1+j:Nat):Int)≤((i+j:Nat):Int))=False:=eq_false omg;have hpl:(j≤(Jq4 v i j).length)=True:=eq_true omg;have ht1:(Jq4 v i j).take j=Jq4 v i j:=List.take_of_length_le omg;have ht2:(Jrg (Jq4 v i j)).take j=Jrg (Jq4 v i j):=List.take_of_length_le (by rw [Jqx];omega);(refine lws ?_;simp only [go_sem,simprocAttr,hg0,c1,w3,hpl,ht1,ht2,Jqx])
  skip
 ·have hlt:=Decidable.not_not.1 hlt;obtain ⟨q,hq⟩:∃ q,v[i+1+j]? = some q:=⟨_,List.getElem?_eq_getElem omg⟩
  have hgi:=Jue hq;have hga:=Jyg hq hlt;have htk:=J0a hga;have hpl:(Jrg ((Jq4 v i m).take j)).length=j:=by rw [Jqx,List.length_take];omega
  have c1:(((i+1+j:Nat):Int)≤((i+m:Nat):Int))=True:=eq_true omg;have w4:IntKind.i64.wrap (((i+1+j:Nat):Int)+1)=((i+1+(j+1):Nat):Int):=by rw [Aa omg omg];omega
  (refine lws ?_;simp only [go_sem,simprocAttr,hg0,c1,w3]);refine J4m 12 [1,2,3,4,5,6,7,8,9,10,11] (.node 0 (.node 12 (.node 13 (.node 14 .leaf .nil) .nil) .nil) (.node 12 (.node 0 (.node 13 (.node 14 .leaf .nil) .nil) .nil) .nil)) 4 hm rfl krf krf ?_;simp only [go_sem,simprocAttr,hgi,hpl,w4];refine ⟨⟨by simp,by omega,by omega,j+1,by omega,by omega,?_⟩,⟨by simp,by omega,by omega,j+1,by omega,by omega,?_⟩⟩
  ·rw [htk];exact Jqb
  ·rw [htk];exact Jqb
theorem J2a:∀ (N:Nat) (F:RF),F.enc.length≤N→okRF F→∀ (i:Nat) (r:YRow),F.enc[i]? = some r→r.kind=1 →
  ∃ m:Nat,r.many=(m:Int)∧i+m<F.enc.length∧1≤r.n∧r.n≤31∧∀ j q,j<m→F.enc[i+1+j]? = some q→Jrn q.n q.c
 | 0,F,hN,_,i,r,hr,_=>by
  have:=(List.getElem?_eq_some_iff.1 hr).1;omega
 | N+1,.nil,hN,_,i,r,hr,_=>by rw [Jq2] at hr;simp at hr
 | N+1,.cons nm (.mk k s n c kids) rest,hN,hok,i,r,hr,hk=>by
  rw [J2i] at hok;obtain ⟨h1,h2,h3,h4⟩:=hok;have henc:(RF.cons nm (.mk k s n c kids) rest).enc=⟨k,kids.len,nm,s,n,c⟩ :: (kids.app rest).enc:=by
   rw [Jqg,Jqo,Jqr];rfl
  rw [henc] at hr hN ⊢;cases i with
  | succ i =>
   rw [List.getElem?_cons_succ] at hr;obtain ⟨m,a1,a2,a3,a4,a5⟩:=J2a N (kids.app rest) (by simp only [List.length_cons] at hN;omega) h4 i r hr hk;refine ⟨m,a1,by simp only [List.length_cons];omega,a3,a4,fun j q hj hq=>?_⟩;rw [show i+1+1+j=(i+1+j)+1 by omega,List.getElem?_cons_succ] at hq;exact a5 j q hj hq
  | zero =>
   rw [List.getElem?_cons_zero] at hr;cases hr;simp only at hk ⊢;subst hk;have hkids:∀ p∈kids.list,p.2.kind=9:=fun p hp=>((h2.1 p hp).1).2 rfl
   rw [Jy6] at h4;have hokk:=Jug.1 h4.1;have hleaf:J2e kids.list:=by
    intro p hp;have ho:=hokk p hp;have h9:=hkids p hp;obtain ⟨nm',⟨k',s',n',c',kids'⟩⟩:=p;simp only [RT.kind,RT.kids] at h9 ⊢;rw [Jt9] at ho;subst h9;have hz:kids'.len=0:=by have:=ho.1;unfold Jri at this;simp at this;omega
    cases kids' with
    | nil=>rfl
    | cons a b c=>simp [RF.len] at hz
   unfold Jri at h1;simp at h1;have hll:=Jrc kids;have hel:=J0g hleaf;refine ⟨kids.len,rfl,?_,h1.1,h1.2.1,fun j q hj hq=>?_⟩
   ·rw [Jqr];simp only [List.length_cons,List.length_append];omega
   ·rw [Nat.zero_add,Nat.add_comm 1 j,List.getElem?_cons_succ,Jqr,List.getElem?_append_left omg] at hq;obtain ⟨p,hp⟩:∃ p,kids.list[j]? = some p:=⟨_,List.getElem?_eq_getElem omg⟩
    rw [Jzl hleaf hp] at hq;cases hq;have ho:=hokk p (List.mem_of_getElem? hp);have h9:=hkids p (List.mem_of_getElem? hp);obtain ⟨nm',⟨k',s',n',c',kids'⟩⟩:=p;rw [Jt9] at ho;simp only [RT.kind] at h9;subst h9;have:=ho.1;unfold Jri at this;simp at this;exact this.2.2
noncomputable def Jur (v:List YRow) (i:Nat):Bool:=match v[i]? with
 | some r=>if r.kind=1 then ((Js9 (Jq4 v i r.many.toNat)).find? (Jq1 r.n (Jq4 v i r.many.toNat))).isSome else true
 | none=>true
noncomputable def Jwm (v:List YRow):Bool:=Jtk v && allF (Jur v) v.length 0
theorem d_Good (v:List YRow) (hv:v.length≤10000) (hf:∀ n∈v,RowFit n) (hs:∀ n∈v,n.c.s.length≤500):Det cx 122 [.p (.sl (rowL v))] [] (.p (.bool (Jwm v))) []:=by
 have hR:=J2s v hv hf;cases hr:Jtk v with
 | false =>
  rw [hr] at hR;rw [show Jwm v=false by unfold Jwm;rw [hr];rfl];(refine bgo Tryz.func122 ?_;simp only [go_sem,simprocAttr]);(repeat' (first | ((refine Jqa (hR) ?_);simp only [go_sem,simprocAttr]) | fail))
 | true =>
  rw [hr] at hR;rw [show Jwm v=allF (Jur v) v.length 0 by unfold Jwm;rw [hr];rfl];obtain ⟨t,hok,hk9,ht⟩:=Jt4.1 hr;have hsc:∀ (i:Nat) (r:YRow),v[i]? = some r→r.kind=1→∃ m:Nat,r.many=(m:Int)∧i+m<v.length∧1≤r.n∧r.n≤31∧∀ j q,j<m→v[i+1+j]? = some q→Jrn q.n q.c:=by
   have hF:(RF.cons [] t .nil).enc=v:=by rw [Jqg,Jq2,List.append_nil,ht]
   have:=J2a v.length (.cons [] t .nil) (by rw [hF];exact Nat.le_refl _) (by rw [Jsp];exact ⟨hok,Jtb⟩);rw [hF] at this;exact this
  (refine bgo Tryz.func122 ?_;simp only [go_sem,simprocAttr]);(repeat' (first | ((refine Jqa (hR) ?_);simp only [go_sem,simprocAttr]) | fail));refine SWP.loop (fun i:Nat=>⟨Ba 35 [(0,.p (.sl (rowL v))),(3,.p (.int .i64 i))],[]⟩) (fun i=>i≤v.length∧allF (Jur v) v.length 0=allF (Jur v) (v.length - i) i) (fun i=>v.length - i) 0 Jqb ⟨Nat.zero_le _,rfl⟩ ?_;rintro i ⟨hi,hall⟩;by_cases hlt:¬ i<v.length
  ·have c1:((i:Int)<(v.length:Int))=False:=eq_false omg;rw [show v.length - i=0 by omega,allF] at hall;rw [hall];(refine lws ?_;simp only [go_sem,simprocAttr,Jqi,c1])
   skip
  ·have hlt:=Decidable.not_not.1 hlt;have c1:((i:Int)<(v.length:Int))=True:=eq_true omg;obtain ⟨r,hq⟩:∃ r,v[i]? = some r:=⟨_,List.getElem?_eq_getElem hlt⟩
   have hg:=Jue hq;have w1:=wj1 (i:=i) omg;obtain ⟨k,hk1⟩:∃ k,v.length - i=k+1:=⟨v.length - i - 1,by omega⟩
   rw [hk1,allF] at hall;by_cases h1:r.kind=1
   ·have c2:=eq_true h1;obtain ⟨m,hrm,hb,hn0,hn1,hat⟩:=hsc i r hq h1;obtain ⟨N,hN⟩:∃ N:Nat,r.n=(N:Int):=⟨r.n.toNat,by omega⟩
    have hA:=J78 v i m r hq h1 hrm hb omg;have hat':∀ a∈Jq4 v i m,Jrn a.1 a.2∧a.2.s.length≤500:=by
     intro a ha;obtain ⟨j,hj⟩:=List.getElem?_of_mem ha;have hjm:j<m:=by
      have:=(List.getElem?_eq_some_iff.1 hj).1;rw [Ju7 hb] at this;exact this
     obtain ⟨q,hq2⟩:∃ q,v[i+1+j]? = some q:=⟨_,List.getElem?_eq_getElem omg⟩
     have:=Jyg (m:=m) hq2 hjm;rw [this] at hj;cases hj;exact ⟨hat j q hjm hq2,hs q (List.mem_of_getElem? hq2)⟩
    have hLs:=d_Least N (Jq4 v i m) omg (by rw [Ju7 hb];omega) hat';have hga:Jur v i=((Js9 (Jq4 v i m)).find? (Jq1 (N:Int) (Jq4 v i m))).isSome:=by
     unfold Jur;rw [hq];simp only [h1,if_true,hrm,Int.toNat_natCast,hN]
    rw [hga] at hall;rw [hN] at hg;cases hfd:(Js9 (Jq4 v i m)).find? (Jq1 (N:Int) (Jq4 v i m)) with
    | none =>
     rw [hfd] at hLs hall;simp only [besL] at hLs;(refine lws ?_;simp only [go_sem,simprocAttr,Jqi,c1,c2,hg]);refine Ju2 12 [0,1,2,3,4,5,6] (.node 7 (.node 8 (.node 9 (.node 10 (.node 11 (.node 12 (.node 13 (.node 14 .leaf .nil) .nil) .nil) (.node 12 (.node 11 (.node 13 (.node 14 .leaf .nil) .nil) (.node 13 (.node 11 (.node 14 .leaf .nil) .nil) .nil)) .nil)) (.node 11 (.node 10 (.node 12 (.node 13 (.node 14 .leaf .nil) .nil) .nil) (.node 12 (.node 10 (.node 13 (.node 14 .leaf .nil) .nil) .nil) .nil)) (.node 12 (.node 10 (.node 11 (.node 13 (.node 14 .leaf .nil) .nil) (.node 13 (.node 11 (.node 14 .leaf .nil) .nil) .nil)) (.node 11 (.node 10 (.node 13 (.node 14 .leaf .nil) .nil) .nil) .nil)) .nil))) (.node 12 (.node 9 (.node 10 (.node 11 (.node 13 (.node 14 .leaf .nil) .nil) (.node 13 (.node 11 (.node 14 .leaf .nil) .nil) .nil)) (.node 11 (.node 10 (.node 13 (.node 14 .leaf .nil) .nil) .nil) .nil)) .nil) .nil)) (.node 12 (.node 8 (.node 9 (.node 10 (.node 11 (.node 13 (.node 14 .leaf .nil) .nil) (.node 13 (.node 11 (.node 14 .leaf .nil) .nil) .nil)) (.node 11 (.node 10 (.node 13 (.node 14 .leaf .nil) .nil) .nil) .nil)) .nil) .nil) .nil)) (.node 12 (.node 7 (.node 8 (.node 9 (.node 10 (.node 11 (.node 13 (.node 14 .leaf .nil) .nil) (.node 13 (.node 11 (.node 14 .leaf .nil) .nil) .nil)) (.node 11 (.node 10 (.node 13 (.node 14 .leaf .nil) .nil) .nil) .nil)) .nil) .nil) .nil) .nil)) 8 hm rfl krf krf ?_;simp only [go_sem,simprocAttr,hg];(repeat' (first | (refine And.intro ?_ ?_)|((first | (refine Jqd (hA) ?_)|(refine Jqd (hLs) ?_));simp only [go_sem,simprocAttr]) | fail))
     all_goals (rw [hall];rfl)
    | some x =>
     rw [hfd] at hLs hall;simp only [besL] at hLs;(refine lws ?_;simp only [go_sem,simprocAttr,Jqi,c1,c2,hg]);refine Ju2 12 [0,1,2,3,4,5,6] (.node 7 (.node 8 (.node 9 (.node 10 (.node 11 (.node 12 (.node 13 (.node 14 .leaf .nil) .nil) .nil) (.node 12 (.node 11 (.node 13 (.node 14 .leaf .nil) .nil) (.node 13 (.node 11 (.node 14 .leaf .nil) .nil) .nil)) .nil)) (.node 11 (.node 10 (.node 12 (.node 13 (.node 14 .leaf .nil) .nil) .nil) (.node 12 (.node 10 (.node 13 (.node 14 .leaf .nil) .nil) .nil) .nil)) (.node 12 (.node 10 (.node 11 (.node 13 (.node 14 .leaf .nil) .nil) (.node 13 (.node 11 (.node 14 .leaf .nil) .nil) .nil)) (.node 11 (.node 10 (.node 13 (.node 14 .leaf .nil) .nil) .nil) .nil)) .nil))) (.node 12 (.node 9 (.node 10 (.node 11 (.node 13 (.node 14 .leaf .nil) .nil) (.node 13 (.node 11 (.node 14 .leaf .nil) .nil) .nil)) (.node 11 (.node 10 (.node 13 (.node 14 .leaf .nil) .nil) .nil) .nil)) .nil) .nil)) (.node 12 (.node 8 (.node 9 (.node 10 (.node 11 (.node 13 (.node 14 .leaf .nil) .nil) (.node 13 (.node 11 (.node 14 .leaf .nil) .nil) .nil)) (.node 11 (.node 10 (.node 13 (.node 14 .leaf .nil) .nil) .nil) .nil)) .nil) .nil) .nil)) (.node 12 (.node 7 (.node 8 (.node 9 (.node 10 (.node 11 (.node 13 (.node 14 .leaf .nil) .nil) (.node 13 (.node 11 (.node 14 .leaf .nil) .nil) .nil)) (.node 11 (.node 10 (.node 13 (.node 14 .leaf .nil) .nil) .nil) .nil)) .nil) .nil) .nil) .nil)) 8 hm rfl krf krf ?_;simp only [go_sem,simprocAttr,hg];(repeat' (first | (refine And.intro ?_ ?_)|((first | (refine Jqd (hA) ?_)|(refine Jqd (hLs) ?_));simp only [go_sem,simprocAttr,w1]) | fail))
     all_goals exact ⟨i+1,⟨by omega,by rw [hall,show v.length - (i+1)=k by omega];rfl⟩,by omega,Jqb⟩
   ·have c2:=eq_false h1;rw [show Jur v i=true by unfold Jur;rw [hq];simp only [if_neg h1],Bool.true_and] at hall;(refine lws ?_;simp only [go_sem,simprocAttr,Jqi,c1,c2,hg,w1]);exact ⟨i+1,⟨by omega,by rw [hall,show v.length - (i+1)=k by omega]⟩,by omega,Jqb⟩
def Jvd (r:YRow):Bool:=decide (r.s.length≤100) && (decide (r.name.length≤100) && decide (r.c.s.length≤100))
def Jsx (v:List YRow) (m:Nat):Bool:=decide (v.length≤m) && v.all Jvd
noncomputable def Jzh (v:List YRow) (m:Nat):Bool:=Jsx v m && Jwm v
structure ERow (r:YRow):Prop where
 s:r.s.length≤9223372036854775807
 name:r.name.length≤9223372036854775807
 cs:r.c.s.length≤9223372036854775807
 e0:-9223372036854775808≤r.c.e
 e1:r.c.e≤9223372036854775807
theorem d_Short (v:List YRow) (m:Nat) (hm':m≤1000) (hv:v.length≤9223372036854775807) (hf:∀ n∈v,ERow n):Det cx 121 [.p (.sl (rowL v)),.p (.int .i64 m)] [] (.p (.bool (Jsx v m))) []:=by
 (refine bgo Tryz.func121 ?_;simp only [go_sem,simprocAttr]);refine SWP.loop (fun i:Nat=>⟨Ba 43 [(0,.p (.sl (rowL v))),(1,.p (.int .i64 m)),(5,.p (.int .i64 i))],[]⟩) (fun i=>i≤v.length∧i≤m∧(v.take i).all Jvd=true) (fun i=>v.length - i) 0 Jqb ⟨Nat.zero_le _,Nat.zero_le _,rfl⟩ ?_;rintro i ⟨h1,h2,h3⟩;by_cases hi:¬ i<v.length
 ·have c1:((i:Int)<(v.length:Int))=False:=eq_false omg;rw [List.take_of_length_le omg] at h3;rw [show Jsx v m=true by unfold Jsx;rw [h3,decide_eq_true omg];rfl];(refine lws ?_;simp only [go_sem,simprocAttr,Jqi,c1])
  skip
 ·have hi:=Decidable.not_not.1 hi;have c1:((i:Int)<(v.length:Int))=True:=eq_true omg;obtain ⟨n,hn⟩:∃ n,v[i]? = some n:=⟨_,List.getElem?_eq_getElem hi⟩
  have hg:=Jue hn;have hfn:=hf n (List.mem_of_getElem? hn);obtain ⟨f1,f2,f3,f4,f5⟩:=hfn;have w1:=wj1 (i:=i) omg;have hnot:Jvd n=false→Jsx v m=false:=fun h=>by
   unfold Jsx;rw [Bool.and_eq_false_iff];exact .inr (List.all_eq_false.2 ⟨n,List.mem_of_getElem? hn,by rw [h];simp⟩)
  by_cases him:(m:Int)≤(i:Int)
  ·have c2:=eq_true him;rw [show Jsx v m=false by unfold Jsx;rw [decide_eq_false omg];rfl];(refine lws ?_;simp only [go_sem,simprocAttr,Jqi,c1,c2])
   skip
  ·have c2:=eq_false him;(refine lws ?_;simp only [go_sem,simprocAttr,Jqi,c1,c2,hg,w1]);(repeat' (apply iteI <;> intro h))
   all_goals first
    | (
     refine ⟨i+1,⟨by omega,by omega,?_⟩,by omega,Jqb⟩;rw [List.take_add_one,hn,List.all_append,h3];simp [Jvd];omega)
    | (exact (hnot (by unfold Jvd;simp;omega)).symm)
theorem d_FewT (v:List YRow) (m:Nat) (hm':m≤1000) (hv:v.length≤9223372036854775807) (hf:∀ n∈v,ERow n):Det cx 48 [.p (.sl (rowL v)),.p (.int .i64 m)] [] (.p (.bool (Jzh v m))) []:=by
 have hS:=d_Short v m hm' hv hf;unfold Jzh;cases hs:Jsx v m with
 | false =>
  rw [hs] at hS;rw [Bool.false_and];(refine bgo Tryz.func48 ?_;simp only [go_sem,simprocAttr]);(repeat' (first | ((refine Jqa (hS) ?_);simp only [go_sem,simprocAttr]) | fail))
 | true =>
  rw [hs] at hS;rw [Bool.true_and];have hs':=hs;unfold Jsx at hs';rw [Bool.and_eq_true,decide_eq_true_eq,List.all_eq_true] at hs';have hG:=d_Good v omg (fun n hn=>by
   have:=hs'.2 n hn;simp only [Jvd,Bool.and_eq_true,decide_eq_true_eq] at this;exact ⟨by omega,by omega,⟨by omega,(hf n hn).e0,(hf n hn).e1⟩⟩) (fun n hn=>by
   have:=hs'.2 n hn;simp only [Jvd,Bool.and_eq_true,decide_eq_true_eq] at this;omega)
  (refine bgo Tryz.func48 ?_;simp only [go_sem,simprocAttr]);(repeat' (first | ((first | (refine Jqa (hS) ?_)|(refine Jqa (hG) ?_));simp only [go_sem,simprocAttr]) | fail))
def num1 (c:UInt8):Tree:=.mk 3 [c] false 0 .nil
def Jzt (c d:UInt8):Tree:=.mk 5 [] false 0 (.cons [] (num1 c) (.cons [] (num1 d) .nil))
def sort1:RT:=.mk 7 [46] 0 Jrp (.cons [] (.mk 1 [] 8 Jrp .nil) .nil)
def any1:RT:=.mk 0 [] 0 Jrp .nil
theorem J2u {c:UInt8} (h:c=49∨c=50):okT (num1 c):=by
 unfold num1;rw [okT];refine ⟨?_,⟨by simp,by simp [Forest.list],by simp⟩,by rw [okF];trivial⟩;rcases h with rfl | rfl <;> decide
theorem J3m {c d:UInt8} (hc:c=49∨c=50) (hd:d=49∨d=50):okT (Jzt c d):=by
 unfold Jzt;rw [okT];refine ⟨by simp [G3,Forest.len],⟨by simp [Forest.list],by intro p hp;simp only [Forest.list,List.mem_cons,List.not_mem_nil,or_false] at hp;rcases hp with rfl | rfl <;> rfl,by simp⟩,?_⟩;rw [okF,okF,okF];exact ⟨J2u hc,J2u hd,trivial⟩
theorem J48:Je [46]=([],0,0):=by decide +kernel
theorem J3y:okR sort1:=by
 unfold sort1;rw [Jt9];refine ⟨?_,⟨?_,fun h=>by omega⟩,?_,?_⟩
 ·unfold Jri;rw [if_neg de,if_neg de,if_neg de,if_neg de,if_neg de,if_neg de,if_pos de];refine ⟨rfl,rfl,rfl,?_⟩;unfold fldS;rw [J48];exact ⟨rfl,by simp⟩
 ·intro p hp;simp only [RF.list,List.mem_cons,List.not_mem_nil,or_false] at hp;subst hp;exact ⟨by simp [RT.kind],fun _=>rfl,fun h=>by omega⟩
 ·intro _ p hp;simp only [RF.list,List.head?_cons,Option.some.injEq] at hp;subst hp;rw [J48];exact ⟨_,Jxz _,rfl⟩
 ·rw [Jsp,Jt9];exact ⟨⟨by decide,Ju3 1,fun h=>by omega,Jtb⟩,Jtb⟩
theorem any1_ok:okR any1:=by
 unfold any1;rw [Jt9];exact ⟨by decide,Ju3 0,fun h=>by omega,Jtb⟩
theorem in_1:inTy sort1 (Jzt 49 50)=true:=by decide +kernel
theorem in_2:inTy sort1 (Jzt 50 49)=false:=by decide +kernel
theorem in_3:inTy any1 (num1 49)=true:=by decide +kernel
theorem key_1:keyV [46] (num1 49)=[⟨3,0,[],[49],false,0⟩]:=by decide +kernel
theorem Jsh:Det cx 16 [] [] (.p (.bool true)) []:=by
 have fit:∀ {t:Tree},okT t→(t.enc []).length≤1000000→(∀ n∈t.enc [],n.s.length≤1000∧n.name.length≤1000∧n.e=0)→VFit t:=fun h1 h2 h3 =>
  ⟨h1,fun n hn=>by obtain ⟨a,b,c⟩:=h3 n hn;exact ⟨by omega,by omega,by omega,by omega⟩,h2⟩
 have i1:=d_In 2 sort1 de J3y de (by unfold SFit;decide) de (Jzt 49 50) (fit (J3m (.inl rfl) (.inr rfl)) de de);have i2:=d_In 2 sort1 de J3y de (by unfold SFit;decide) de (Jzt 50 49) (fit (J3m (.inr rfl) (.inl rfl)) de de);have i3:=d_In 1 any1 de any1_ok de (by unfold SFit;decide) de (num1 49) (fit (J2u (.inl rfl)) de de);have k1:=d_Key [46] (num1 49) de de;rw [in_1] at i1;rw [in_2] at i2;rw [in_3] at i3;rw [key_1] at k1;have e1:rowL (sort1.enc [])=[[.int .i64 7,.int .i64 1,.str [],.str [46],.int .i64 0,.int .i64 0,.int .i64 0,.str [],.str [],.bool false,.int .i64 0],[.int .i64 1,.int .i64 0,.str [],.str [],.int .i64 8,.int .i64 0,.int .i64 0,.str [],.str [],.bool false,.int .i64 0]]:=by rfl
 have e2:rowL (any1.enc [])=[[.int .i64 0,.int .i64 0,.str [],.str [],.int .i64 0,.int .i64 0,.int .i64 0,.str [],.str [],.bool false,.int .i64 0]]:=by rfl
 have e3:∀ c d,valL ((Jzt c d).enc [])=[[.int .i64 5,.int .i64 2,.str [],.str [],.bool false,.int .i64 0],[.int .i64 3,.int .i64 0,.str [],.str [c],.bool false,.int .i64 0],[.int .i64 3,.int .i64 0,.str [],.str [d],.bool false,.int .i64 0]]:=fun _ _=>by rfl
 have e4:∀ c,valL ((num1 c).enc [])=[[.int .i64 3,.int .i64 0,.str [],.str [c],.bool false,.int .i64 0]]:=fun _=>by rfl
 have e5:valL [(⟨3,0,[],[49],false,0⟩:Node)]=[[.int .i64 3,.int .i64 0,.str [],.str [49],.bool false,.int .i64 0]]:=by rfl
 rw [e1,e3] at i1 i2;rw [e2,e4] at i3;rw [e4,e5] at k1;(refine bgo Tryz.func16 ?_;simp only [go_sem,simprocAttr]);(repeat' (first | ((first | (refine Jqa (i1) ?_)|(refine Jqa (i2) ?_)|(refine Jqa (i3) ?_)|(refine Jqa (k1) ?_));simp only [go_sem,simprocAttr]) | fail))
structure TyFit (v:List YRow):Prop where
 len:v.length≤140737488355328
 row:∀ n∈v,ERow n
theorem d_given (v:List YRow) (u:List Node) (hv:TyFit v) (hu:ValFit u):Det cx 15 [.p (.sl (rowL v)),.p (.sl (valL u))] [] (.p (.bool (Jzh v 60 && fewB u 60))) []:=by
 have h1:=d_FewT v 60 de (by have:=hv.len;omega) hv.row;have h2:=Ln u 60 de (by have:=hu.len;omega) hu.node;cases b1:Jzh v 60 with
 | false =>
  rw [b1] at h1;rw [Bool.false_and];(refine bgo Tryz.func15 ?_;simp only [go_sem,simprocAttr]);(repeat' (first | ((refine Jqa (h1) ?_);simp only [go_sem,simprocAttr]) | fail))
 | true =>
  rw [b1] at h1;rw [Bool.true_and];(refine bgo Tryz.func15 ?_;simp only [go_sem,simprocAttr]);(repeat' (first | ((first | (refine Jqa (h1) ?_)|(refine Jqa (h2) ?_));simp only [go_sem,simprocAttr]) | fail))
theorem J81 {v:List YRow} (h:Jzh v 60=true):∃ t:RT,okR t∧t.kind≠9∧v=t.enc []∧(t.enc []).length≤60∧SFit t:=by
 unfold Jzh Jwm Jsx at h;simp only [Bool.and_eq_true,decide_eq_true_eq,List.all_eq_true] at h;obtain ⟨⟨h1,h2⟩,h3,_⟩:=h;obtain ⟨t,a,b,rfl⟩:=Jt4.1 h3;refine ⟨t,a,b,rfl,h1,fun r hr=>?_⟩;have:=h2 r hr;simp only [Jvd,Bool.and_eq_true,decide_eq_true_eq] at this;omega
end Go.LX
namespace Go.LX
open Go Go.Proofs Go.RowKit Go.ChangeShapes Go.WideShapes Go.ChangeAt Go.Lib
open Go.Proofs.YtpaiiekgdgjjnaaGreatDoor
theorem cTy:Tryz.prog.cellsOf 31=11:=krf
theorem bTy:0<Tryz.prog.bytesOf 31:=by decide +kernel
def YRow.vals (r:YRow):List Value:=[.int .i64 r.kind,.int .i64 r.many,.string ⟨⟨r.name⟩⟩,.string ⟨⟨r.s⟩⟩,.int .i64 r.n,.int .i64 r.c.kind,.int .i64 r.c.many,.string ⟨⟨r.c.name⟩⟩,.string ⟨⟨r.c.s⟩⟩,.bool r.c.neg,.int .i64 r.c.e]
theorem eachTy {H:Type} {enc:TypeId×Value→H} {w:World} (fuel:Nat) (cs:List Value) (y:DataW H×List MemPlace) (h:DataW.trod enc Tryz.prog w 0 (fun _=>true) true fuel 31 cs=some y) (hz:∀ n∈y.1.weights Tryz.prog 31,n≤reachBytes) :
  ∃ x:YRow,ERow x∧cs=x.vals:=by
 obtain ⟨xs,n,_,rfl,hl,hlen,hf⟩:=DataW.trod_struct Tryz.underlying31 h;rw [cTy] at hl
 match xs,hlen,cs,hl with
 | [y0,y1,y2,y3,y4,y5],_,[a0,a1,a2,a3,a4,a5,a6,a7,a8,a9,a10],_ =>
  have g0:=hf 0 _ rfl;have g1:=hf 1 _ rfl;have g2:=hf 2 _ rfl;have g3:=hf 3 _ rfl;have g4:=hf 4 _ rfl;have g5:=hf 5 _ rfl;simp only [cBool,cStr,cInt,Kbt,List.drop_zero,List.drop_succ_cons,List.take_succ_cons,List.take_zero,List.getElem?_cons_zero,List.getElem?_cons_succ] at g0 g1 g2 g3 g4 g5;obtain ⟨x0,e0,rfl,_⟩:=DataW.trod_int Tryz.underlying3 g0;obtain ⟨x1,e1,rfl,_⟩:=DataW.trod_int Tryz.underlying3 g1;obtain ⟨x2,e2,rfl,z2⟩:=DataW.trod_string Tryz.underlying9 g2;obtain ⟨x3,e3,rfl,z3⟩:=DataW.trod_string Tryz.underlying9 g3;obtain ⟨x4,e4,rfl,_⟩:=DataW.trod_int Tryz.underlying3 g4;obtain ⟨c,hc,e5⟩:=Jly _ _ _ g5 (fun n hn=>hz n (by simp [DataW.weights,DataW.weightsEach,Tryz.underlying31,hn]));cases e0;cases e1;cases e2;cases e3;cases e4;cases e5;have hm:maxLen=9223372036854775807:=by decide
  have s2:=T8 x2;have s3:=T8 x3;refine ⟨⟨x0,x1,x2.data.toList,x3.data.toList,x4,c⟩,⟨?_,?_,hc.s,hc.e0,hc.e1⟩,?_⟩
  ·show x3.data.toList.length≤_;omega
  ·show x2.data.toList.length≤_;omega
  ·simp only [YRow.vals,Jc3]
theorem ty_rep (w:World) (Im:Nat→Prop) (x:YRow) (j:Nat) (p:PV) (h:x.cells[j]? = some p):PRep w Im (x.vals.getD j undef) p:=by
 match j,h with
 | 0,h=>cases h;exact PRep.int _ _
 | 1,h=>cases h;exact PRep.int _ _
 | 2,h=>cases h;exact PRep.str _
 | 3,h=>cases h;exact PRep.str _
 | 4,h=>cases h;exact PRep.int _ _
 | 5,h=>cases h;exact PRep.int _ _
 | 6,h=>cases h;exact PRep.int _ _
 | 7,h=>cases h;exact PRep.str _
 | 8,h=>cases h;exact PRep.str _
 | 9,h=>cases h;exact PRep.bool _
 | 10,h=>cases h;exact PRep.int _ _
 | j+11,h=>simp [YRow.cells] at h
theorem cellTy {H:Type} {enc:TypeId×Value→H} {w:World} {b:Nat} {v:Value} (hok:Cell.okWide Tryz.prog w .any b 23 v) {fuel:Nat} {x:DataW H×List MemPlace} (h:DataW.trod enc Tryz.prog w 0 (fun _=>true) true fuel 23 [v]=some x) (hz:∀ n∈x.1.weights Tryz.prog 23,n≤reachBytes) :
  ∃ p:List YRow,TyFit p∧PRep w (Ja w) v (.sl (rowL p)):=by
 obtain ⟨p,h1,h2,h3⟩:=Xx YRow.vals YRow.cells ERow Tryz.underlying23 cTy bTy (fun _=>rfl) (fun _=>rfl) (fun x p hp=>by simp [YRow.cells] at hp;rcases hp with rfl | rfl | rfl | rfl | rfl | rfl | rfl | rfl | rfl | rfl | rfl <;> rfl) (ty_rep w) eachTy hok h hz;exact ⟨p,⟨h1,h2⟩,h3⟩
theorem argTy {H:Type} {enc:TypeId×Value→H} {w:World} {b:Nat} {v:Value} {d:DataW H} {q:List MemPlace} {ts:List TypeId} {ds:List (DataW H)} (hok:Value.okWide Tryz.prog w .any b 23 v) (h:DataW.Trod enc Tryz.prog w 0 (fun _=>true) true 23 v d q)
  (hz:(DataW.weightsEach Tryz.prog ts ds).all (· ≤ reachBytes)=true) {j:Nat} (h1:ts[j]? = some 23) (h2:ds[j]? = some d):∃ p:List YRow,TyFit p∧PRep w (Ja w) v (.sl (rowL p)):=by
 simp only [Value.okWide,Tryz.underlying23] at hok;obtain ⟨fuel,h⟩:=h;rw [Jkh Tryz.underlying23 hok] at h;exact cellTy hok h (J0 hz h1 h2)
theorem membG {W:World} (h:laidMetH Tryz.prog Rows.membTellsRow.laid W):QuoteG W (Ja W):=Jdp h
end Go.LX
namespace Go.LX
open Go Go.RowKit Go.Proofs
attribute [local irreducible] Al SWP Bi
end Go.LX
