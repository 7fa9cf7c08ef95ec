/- A part of the proof of DirBuilds. -/
import Derived.Test.YtlegpkdighoflaaGreatSbj
set_option linter.unusedVariables false
set_option linter.unusedSimpArgs false
set_option maxRecDepth 100000
set_option maxHeartbeats 40000000
namespace Go.Proofs.YtlegpkdighoflaaGreat
open Go Go.RowKit Sh
theorem RG' {P Q : Prop} (q : Q) (h : Q → P := by
  intro q
  rw [C2]
  dsimp only [E0, List.foldl, zv, za, zs, zp, zb]
  simp only [List.set_cons_succ, List.set_cons_zero]
  exact q) : P := h q
theorem KG' {Q : World → Prop} {P : Prop} (c : ∀ W, Q W) (h : (∀ W, Q W) → P := by
  intro c o ho us W hW hp Q' hQ'
  obtain rfl := Option.some.inj ho
  clear hp ho
  rw [C2] at hQ' ⊢
  dsimp only [E4, E0, List.foldl, zv, za, zs, zp, zb] at hQ' ⊢
  simp only [List.set_cons_succ, List.set_cons_zero]
  go_wp2_with fail
  refine (c W).mono ?_
  rintro e W2 ⟨rfl, b2⟩
  go_wp2_with fail
  exact C5 (hQ' _ _ b2 rfl (fun h => by cases h)) (by kernel_rfl)) : P := h c
section
open Go.ChangeAt Go.ChangeShapes Go.WideShapes
section
variable {H : Type} {enc : TypeId × Value → H} {P : Program} {w : World} {base : Nat} {spare : Nat → Bool} {held : Bool}
theorem C3c {t ti tb:TypeId} {f0 f1 f2 f3 f4:Field} (ht:P.underlying t=some (.struct #[f0,f1,f2,f3,f4])) (e:[f0,f1,f2,f3,f4].map (fun f=>(f.type,f.offset))=[(ti,0),(ti,1),(ti,2),(tb,3),(tb,4)])
 (hi:P.underlying ti=some (.int .i64)) (hb:P.underlying tb=some .bool) (ci:P.cellsOf ti=1) (cb:P.cellsOf tb=1) (hct:P.cellsOf t=5) {fuel:Nat} {cs:List Value} {x:DataW H×List MemPlace}
 (hx:DataW.trod enc P w base spare held fuel t cs=some x):∃a:AV,cs=a.cells:=by
 obtain⟨xs,n,_,_,hl,aB,aA⟩:=DataW.trod_struct ht hx;simp only[List.map_cons,List.map_nil,List.cons.injEq,Prod.mk.injEq,and_true]at e;obtain⟨⟨a0,b0⟩,⟨a1,b1⟩,⟨a2,b2⟩,⟨a3,b3⟩,a4,b4⟩:=e;have g0:=aA 0 f0 rfl;have g1:=aA 1 f1 rfl;have g2:=aA 2 f2 rfl;have g3:=aA 3 f3 rfl;have g4:=aA 4 f4 rfl;have aC:xs.length=5:=aB;rw[hct]at hl;rw[a0,b0,ci,List.getElem?_eq_getElem (by omega)]at g0;rw[a1,b1,ci,List.getElem?_eq_getElem (by omega)]at g1;rw[a2,b2,ci,List.getElem?_eq_getElem (by omega)]at g2;rw[a3,b3,cb,List.getElem?_eq_getElem (by omega)]at g3;rw[a4,b4,cb,List.getElem?_eq_getElem (by omega)]at g4;obtain⟨n0,h0,_⟩:=DataW.trod_int hi g0;obtain⟨n1,h1,_⟩:=DataW.trod_int hi g1;obtain⟨n2,h2,_⟩:=DataW.trod_int hi g2;obtain⟨n3,h3,_⟩:=DataW.trod_bool hb g3;obtain⟨n4,h4,_⟩:=DataW.trod_bool hb g4;match cs,hl with
 | [c0,c1,c2,c3,c4],_=>
  simp at h0 h1 h2 h3 h4;subst h0 h1 h2 h3 h4;exact ⟨⟨n0,n1,n2,n3,n4⟩,rfl⟩
theorem B1p:∀l:List AV,(l.flatMap AV.cells).length=l.length*5
 | []=>rfl
 | a::l=>by rw[List.flatMap_cons,List.length_append,B1p l];simp[AV.cells];omega
theorem B9m {u t ti tb:TypeId} {f0 f1 f2 f3 f4:Field} (hu:P.underlying u=some (.slice t)) (ht:P.underlying t=some (.struct #[f0,f1,f2,f3,f4])) (e:[f0,f1,f2,f3,f4].map (fun f=>(f.type,f.offset))=[(ti,0),(ti,1),(ti,2),(tb,3),(tb,4)])
 (hi:P.underlying ti=some (.int .i64)) (hb:P.underlying tb=some .bool) (ci:P.cellsOf ti=1) (cb:P.cellsOf tb=1) (hct:P.cellsOf t=5) {fuel:Nat} {cs:List Value} {x:DataW H×List MemPlace}
 (hx:DataW.trod enc P w base spare held fuel u cs=some x):∃v l,cs=[v]∧As w w.heap.size v l:=by
 rcases Go.Deep.open_slice hu hx with ⟨hcs,_⟩ | ⟨a,len,cap,m,n,D,Pl,hcs,_,hl,hm,hmm,_,hii⟩
 ·exact ⟨_,[],hcs,none,0,rfl,Nat.le_refl _,by decide,.inl rfl⟩
 ·have aM:len≤m:=by rw[hmm];split<;>omega
  have aC:∀i,∃p:AV,i<len→∀j u,p.cells[j]?=some u→w.cell? (a.add (i*5+j))=some u:=by
   intro i;by_cases hil:i<len
   ·obtain⟨aN,aF,aJ⟩:=hii i (by omega);rw[hct]at aF;obtain⟨_,aK,aD⟩:=World.cells?_some aF;obtain⟨p,hp⟩:=C3c ht e hi hb ci cb hct aJ;refine ⟨p,fun _ j u hj=>?_⟩;have aE:j<5:=(List.getElem?_eq_some_iff.1 hj).1;have:=aD j aE;rw[B2h]at this;rw[this,hp,hj]
   ·exact ⟨⟨0,0,0,false,false⟩,fun h=>absurd h hil⟩
  obtain⟨f,hf⟩:=Classical.skolem.1 aC;have aG:((List.range len).map f).length=len:=by simp
  refine ⟨_,(List.range len).map f,hcs,some a,cap,by rw[aG],by omega,hm,?_⟩;rcases Nat.eq_zero_or_pos len with hz | hz
  ·subst hz;exact .inl rfl
  ·have aH:=hf 0 hz 0 _ rfl;have hs:a.spot=none:=World.cell?_spot (by simpa [Addr.add] using aH);have aA:a.block<w.heap.size:=block_lt_of_cell (by simpa [Addr.add] using aH);obtain⟨g,o,s⟩:=a;simp only at hs aA;subst hs;refine .inr ⟨g,o,rfl,Nat.zero_le _,aA,fun j u hj=>?_⟩;have aE:=(List.getElem?_eq_some_iff.1 hj).1;have aL:(((List.range len).map f).flatMap AV.cells).length=len*5:=by rw[B1p,aG]
   rw[aL]at aE;have aI:j / 5<len:=by omega
   have aD:=aat (l:=(List.range len).map f) (i:=j / 5) (a:=f (j / 5)) (by simp[aI]);have aB:(f (j / 5)).cells[j % 5]?=some u:=by rw[←aD];simp only[List.getElem?_take,List.getElem?_drop,if_pos (show j % 5<5 by omega)];rw[show j / 5*5+j % 5=j by omega];exact hj
   have:=hf (j / 5) aI (j % 5) u aB;rw[U0,show j / 5*5+j % 5=j by omega]at this;exact this
end
noncomputable def C6a (i:Nat):Field:=(Q0 Tryz.prog 80).getD i default
theorem acts_open {H:Type} {enc:TypeId×Value→H} {w:World} {base:Nat} {spare:Nat→Bool} {held:Bool} {r:Reach} {b0:Nat} {v:Value} {d:DataW H} {ps:List MemPlace} (hval:Value.okWide Tryz.prog w r b0 22 v)
 (h:DataW.Trod enc Tryz.prog w base spare held 22 v d ps):∃l,As w w.heap.size v l:=by
 obtain⟨aC,hf⟩:=h;obtain⟨v',l,hv,hp⟩:=B9m (f0:=C6a 0) (f1:=C6a 1) (f2:=C6a 2) (f3:=C6a 3) (f4:=C6a 4) (t:=80) (ti:=3) (tb:=4) Tryz.underlying22 (by kernel_rfl) (by kernel_rfl) Tryz.underlying3 Tryz.underlying4 (by kernel_rfl) (by kernel_rfl) (by kernel_rfl) hf;have aD:v=v':=by
  obtain⟨a0,aA,aB,e0⟩:=okWide_slice Tryz.underlying22 hval;rw[e0]at hv ⊢;have h1:[Value.slice a0 aA aB]=[v']:=hv;exact (List.cons.inj h1).1
 exact ⟨l,aD▸hp⟩
end
end Go.Proofs.YtlegpkdighoflaaGreat
