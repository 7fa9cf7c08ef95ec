/- A part of the proof of AuditBatch. -/
import Derived.Test.YtdfpoofbgjilgaaGreatUbo
set_option linter.unusedVariables false
set_option linter.unusedSimpArgs false
set_option maxRecDepth 100000
set_option maxHeartbeats 40000000
namespace Go.Proofs.YtdfpoofbgjilgaaGreat
open Go Go.RowKit Sh
section
open Go.ChangeAt Go.ChangeShapes Go.WideShapes
section
variable {H : Type} {enc : TypeId × Value → H} {P : Program} {w : World} {base : Nat} {spare : Nat → Bool} {held : Bool}
theorem C2m {t e:TypeId} (ht:P.underlying t=some (.slice e)) (he:P.underlying e=some (.int .i64)) (hc:P.cellsOf e=1) {fuel:Nat} {cs:List Value} {x:DataW H×List MemPlace}
 (h:DataW.trod enc P w base spare held fuel t cs=some x):∃v l,cs=[v]∧Ns w w.heap.size v l:=by
 rcases open_ints ht he hc h with ⟨hcs,_⟩ | ⟨a,len,cap,zs,hcs,_,hl,hm,hz,hx,hcell,hwz⟩
 ·exact ⟨_,[],hcs,none,0,rfl,Nat.le_refl _,by decide,.inl rfl⟩
 ·have aF:len≤zs.length:=by rw[hz];split<;>omega
  have aB:(zs.take len).length=len:=by simp;omega
  refine ⟨_,zs.take len,hcs,some a,cap,by rw[aB],by omega,hm,?_⟩;rcases Nat.eq_zero_or_pos len with h0 | h0
  ·subst h0;exact .inl rfl
  ·have aC:=hcell 0 (by omega);have hs:a.spot=none:=World.cell?_spot (by simpa [Addr.add] using aC);have aA:a.block<w.heap.size:=block_lt_of_cell (by simpa [Addr.add] using aC);obtain⟨g,o,s⟩:=a;simp only at hs aA;subst hs;refine .inr ⟨g,o,rfl,Nat.zero_le _,aA,fun j u hj=>?_⟩;have aE:j<len:=by have:=(List.getElem?_eq_some_iff.1 hj).1;simp at this;omega
   rw[List.getElem?_map,List.getElem?_take,if_pos aE,List.getElem?_eq_getElem (by omega)]at hj;simp only[Option.map_some,Option.some.injEq]at hj;have aD:=hcell j (by omega);rw[Q4]at aD;rw[aD,←hj];simp only[List.getD_eq_getElem?_getD,List.getElem?_eq_getElem (show j<zs.length by omega),Option.getD_some]
end
theorem nums_open {H:Type} {enc:TypeId×Value→H} {w:World} {base:Nat} {spare:Nat→Bool} {held:Bool} {r:Reach} {b0:Nat} {v:Value} {d:DataW H} {ps:List MemPlace} (hval:Value.okWide Tryz.prog w r b0 30 v)
 (h:DataW.Trod enc Tryz.prog w base spare held 30 v d ps):∃l,Ns w w.heap.size v l:=by
 obtain⟨aC,hf⟩:=h;obtain⟨v',l,hv,hp⟩:=C2m Tryz.underlying30 Tryz.underlying3 (by kernel_rfl) hf;have aD:v=v':=by
  obtain⟨a0,aA,aB,e0⟩:=okWide_slice Tryz.underlying30 hval;rw[e0]at hv ⊢;have h1:[Value.slice a0 aA aB]=[v']:=hv;exact (List.cons.inj h1).1
 exact ⟨l,aD▸hp⟩
end
end Go.Proofs.YtdfpoofbgjilgaaGreat
