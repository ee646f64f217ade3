/- LxAlJ, what one law alone needs. -/
import Derived.OpenShut
import Derived.Test.YtpdaccjebbbbaaaDoorLxU
set_option linter.unusedSimpArgs false
set_option linter.unusedVariables false
set_option linter.unusedSectionVars false
set_option linter.unnecessarySimpa false
set_option maxRecDepth 100000
namespace Go.LX
open Go Go.Proofs Go.RowKit Go.ChangeShapes Go.WideShapes Go.ChangeAt Go.Lib
open Go.Proofs.YtpdaccjebbbbaaaDoor
theorem bU8:0<Tryd.prog.bytesOf 5:=by decide +kernel
theorem argU8s {H:Type} {enc:TypeId×Value→H} {w:World} {b:Nat} {v:Value} {d:DataW H} {q:List MemPlace} {ts:List TypeId} {ds:List (DataW H)} (hok:Value.okWide Tryd.prog w .any b 41 v) (h:DataW.Trod enc Tryd.prog w 0 (fun _=>true) true 41 v d q)
  (hz:(DataW.weightsEach Tryd.prog ts ds).all (· ≤ reachBytes)=true) {j:Nat} (h1:ts[j]? = some 41) (h2:ds[j]? = some d):∃ l:List Nat,BytesFit l∧PRep w (Ja w) v (.sl (u8L l)):=by
 simp only [Value.okWide,Tryd.underlying41] at hok;obtain ⟨fuel,h⟩:=h;rw [Jkh Tryd.underlying41 hok] at h;obtain ⟨v',ls,e1,g1,g2,g3⟩:=Jw9 (α:=Nat) (fun n=>[.int .u8 n]) (fun n=>[.int .u8 n]) (fun n=>n≤255) Tryd.underlying41 cU8 de bU8 (fun _=>rfl) (fun _=>rfl) (fun x p hp=>by simp at hp;subst hp;rfl) (fun x j p _ h=>by
   match j,h with
   | 0,h=>cases h;exact PRep.int _ _
   | j+1,h=>simp at h) (fun fuel cs y h _=>by
   obtain ⟨x,e0,_,z⟩:=DataW.trod_int Tryd.underlying5 h;obtain ⟨k,rfl,hk⟩:=J48 z;exact ⟨k,hk,e0⟩) h (J0 hz h1 h2)
 cases e1;exact ⟨ls,⟨g1,g2⟩,g3⟩
end Go.LX
