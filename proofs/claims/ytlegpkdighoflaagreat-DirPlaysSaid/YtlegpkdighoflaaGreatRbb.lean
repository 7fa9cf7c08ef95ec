/- A part of the proof of DirPlays. -/
import Derived.Maps.OwnSet
import Derived.Maps.OwnIn
import Derived.WideKeyArr
import Derived.Outline
import Derived.Test.YtlegpkdighoflaaGreatRan
import Derived.Test.YtlegpkdighoflaaGreatRba
set_option linter.unusedVariables false
set_option linter.unusedSimpArgs false
set_option maxRecDepth 100000
set_option maxHeartbeats 40000000
namespace Go.Proofs.YtlegpkdighoflaaGreat
open Go Go.RowKit Sh
theorem B7p:WideMaps.ArrKey Tryz.prog 23 5 32:=⟨Tryz.underlying23,by kernel_rfl,by kernel_rfl,by kernel_rfl⟩
theorem Nb:Maps.Keyed Tryz.prog 23:=Maps.Keyed.of_law B7p.law
theorem B4f:∃m,Tryz.prog.types.size=m+1:=⟨Tryz.prog.types.size-1,by kernel_rfl⟩
theorem A6x {α β:Type} {f:α→Option β}:∀(l:List α),(∀x∈l,∃y,f x=some y)→∃ys,l.mapM f=some ys
 | [],_=>⟨[],rfl⟩
 | x::l,h=>by
  obtain⟨y,hy⟩:=h x (by simp);obtain⟨ys,aA⟩:=A6x l (fun z hz=>h z (by simp[hz]));exact ⟨y::ys,by simp[List.mapM_cons,hy,aA]⟩
theorem E3q (x:UInt8):(Lit.int .u8 (n8 x)).wf=true:=by
 have:=x.toNat_lt;simp[Lit.wf,n8,IntKind.min,IntKind.max,IntKind.bits,IntKind.signed];omega
theorem C9g {P:Program} {k e:TypeId} (A:WideMaps.ArrKey P k e 32) (he:P.underlying e=some (.int .u8)) (hsz:∃m,P.types.size=m+1) {l:List UInt8} (hl:l.length=32):∃kl,keyOf P k (A8 l)=some kl:=by
 have aA:=A.keyType hsz;obtain⟨m,hm⟩:=hsz;unfold keyOf;simp only[A.hu];rw[if_pos (by simp[aA,Value.formed,A.hu,A.size,A8,hl]),hm];unfold Program.keyLits;simp only[A.hu,Value.cells,A8];rw[if_pos (by rw[A.size];simp[hl])];obtain⟨ys,aB⟩:∃ys,(List.range 32).mapM (fun i=>P.keyLits (m+1) e (((c8 l).drop (i*P.cellsOf e)).take (P.cellsOf e)))=some ys:=by
  refine A6x _ fun i hi=>?_;have hi:i<32:=by simpa using hi
  obtain⟨x,hx⟩:∃x,l[i]?=some x:=⟨_,List.getElem?_eq_getElem (by omega)⟩;have e1:((c8 l).drop (i*1)).take 1=[v8 x]:=by
   rw[Nat.mul_one];obtain⟨aC,rfl⟩:=List.getElem?_eq_some_iff.1 hx;rw[List.drop_eq_getElem_cons (by simpa using aC)];simp[c8]
  rw[A.one,e1];unfold Program.keyLits;simp only[he,v8];rw[if_pos ⟨trivial,E3q x⟩];exact ⟨_,rfl⟩
 simp only[aB];exact ⟨_,rfl⟩
theorem C5n (l:List UInt8) (hl:l.length=32):∃kl,keyOf Tryz.prog 23 (A8 l)=some kl:=C9g B7p Tryz.underlying5 B4f hl
noncomputable def A1v (P:Program) (k:TypeId) (l:List UInt8):Lit:=(keyOf P k (A8 l)).getD (.bool false)
theorem B1x {P:Program} {k:TypeId} {l:List UInt8} (h:∃kl,keyOf P k (A8 l)=some kl):keyOf P k (A8 l)=some (A1v P k l):=by
 obtain⟨kl,h⟩:=h;rw[A1v,h];rfl
noncomputable def A4t (l:List UInt8):Lit:=A1v Tryz.prog 23 l
theorem Ur {l:List UInt8} (hl:l.length=32):keyOf Tryz.prog 23 (A8 l)=some (A4t l):=B1x (C5n l hl)
theorem B9z {P:Program} {k:TypeId} (K:Maps.Keyed P k) {l:List UInt8} (h:∃kl,keyOf P k (A8 l)=some kl):WideAt.IsKeyLit (A1v P k l):=by
 have h1:=B1x h;generalize A1v P k l=q at *;exact K.key h1
theorem C4w:∀l,A4t l=A1v Tryz.prog 23 l:=fun l=>rfl
attribute [irreducible] A4t A1v
theorem A9p {l:List UInt8} (hl:l.length=32):WideAt.IsKeyLit (A4t l):=by
 have h:=B9z Nb (C5n l hl);rw[←C4w]at h;exact h
theorem D3h {l m:List UInt8} (hl:l.length=32) (hm:m.length=32) (h:l≠m):A4t l≠A4t m:=fun e=>h (C6h (Nb.inj (Ur hl) (by rw[e];exact Ur hm)))
section
theorem A8r {W W':World} {B:Nat} {row:Option Nat} (hg:W.grownBy W' row) (hr:∀r,row=some r→∃o:Obj,W.heap[r]?=some o∧o.isCells=false):∀ {t:Tr} {p:Value},At W B t p→At W' B t p
 | .e,_,h=>h
 | .lf _ _,_,⟨g',h1,h2,h3,h4,h5⟩=>⟨g',h1,h2,h3,h4,Fb h5 hg hr⟩
 | .nd _ _,_,⟨g',pl,pr,h1,h2,h3,h4,h5⟩=>⟨g',pl,pr,h1,h2,Fb h3 hg hr,A8r hg hr h4,A8r hg hr h5⟩
section
variable {F : Fence} {nF : Nat} {Q : Exit → Act → World → Prop} {ops : Array Oper} {rest : List Oper} {o : Oper} {a : Act} {w : World}
end
end
end Go.Proofs.YtlegpkdighoflaaGreat
