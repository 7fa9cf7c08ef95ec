/- A part of the proof of DirPlays. -/
import Derived.Maps.OwnSet
import Derived.Maps.OwnIn
import Derived.WideKeyArr
import Derived.Outline
import Derived.Test.YtlegpkdighoflaaGreatRan
import Derived.Test.YtlegpkdighoflaaGreatRba
set_option linter.unusedVariables false
set_option linter.unusedSimpArgs false
set_option maxRecDepth 100000
set_option maxHeartbeats 40000000
namespace Go.Proofs.YtlegpkdighoflaaGreat
open Go Go.RowKit Sh
theorem C1q:WideMaps.ArrKey Tryz.prog 23 5 32:=⟨Tryz.underlying23,by kernel_rfl,by kernel_rfl,by kernel_rfl⟩
theorem Kx:Maps.Keyed Tryz.prog 23:=Maps.Keyed.of_law C1q.law
theorem B9v:∃m,Tryz.prog.types.size=m+1:=⟨Tryz.prog.types.size-1,by kernel_rfl⟩
theorem A6s {α β:Type} {f:α→Option β}:∀(l:List α),(∀x∈l,∃y,f x=some y)→∃ys,l.mapM f=some ys
 | [],_=>⟨[],rfl⟩
 | x::l,h=>by
  obtain⟨y,hy⟩:=h x (by simp);obtain⟨ys,aA⟩:=A6s l (fun z hz=>h z (by simp[hz]));exact ⟨y::ys,by simp[List.mapM_cons,hy,aA]⟩
theorem F2h (x:UInt8):(Lit.int .u8 (n8 x)).wf=true:=by
 have:=x.toNat_lt;simp[Lit.wf,n8,IntKind.min,IntKind.max,IntKind.bits,IntKind.signed];omega
theorem D0t {P:Program} {k e:TypeId} (A:WideMaps.ArrKey P k e 32) (he:P.underlying e=some (.int .u8)) (hsz:∃m,P.types.size=m+1) {l:List UInt8} (hl:l.length=32):∃kl,keyOf P k (A8 l)=some kl:=by
 have aA:=A.keyType hsz;obtain⟨m,hm⟩:=hsz;unfold keyOf;simp only[A.hu];rw[if_pos (by simp[aA,Value.formed,A.hu,A.size,A8,hl]),hm];unfold Program.keyLits;simp only[A.hu,Value.cells,A8];rw[if_pos (by rw[A.size];simp[hl])];obtain⟨ys,aB⟩:∃ys,(List.range 32).mapM (fun i=>P.keyLits (m+1) e (((c8 l).drop (i*P.cellsOf e)).take (P.cellsOf e)))=some ys:=by
  refine A6s _ fun i hi=>?_;have hi:i<32:=by simpa using hi
  obtain⟨x,hx⟩:∃x,l[i]?=some x:=⟨_,List.getElem?_eq_getElem (by omega)⟩;have e1:((c8 l).drop (i*1)).take 1=[v8 x]:=by
   rw[Nat.mul_one];obtain⟨aC,rfl⟩:=List.getElem?_eq_some_iff.1 hx;rw[List.drop_eq_getElem_cons (by simpa using aC)];simp[c8]
  rw[A.one,e1];unfold Program.keyLits;simp only[he,v8];rw[if_pos ⟨trivial,F2h x⟩];exact ⟨_,rfl⟩
 simp only[aB];exact ⟨_,rfl⟩
theorem D2r (l:List UInt8) (hl:l.length=32):∃kl,keyOf Tryz.prog 23 (A8 l)=some kl:=D0t C1q Tryz.underlying5 B9v hl
noncomputable def A2t (P:Program) (k:TypeId) (l:List UInt8):Lit:=(keyOf P k (A8 l)).getD (.bool false)
theorem B2m {P:Program} {k:TypeId} {l:List UInt8} (h:∃kl,keyOf P k (A8 l)=some kl):keyOf P k (A8 l)=some (A2t P k l):=by
 obtain⟨kl,h⟩:=h;rw[A2t,h];rfl
noncomputable def A4l (l:List UInt8):Lit:=A2t Tryz.prog 23 l
theorem Ue {l:List UInt8} (hl:l.length=32):keyOf Tryz.prog 23 (A8 l)=some (A4l l):=B2m (D2r l hl)
theorem C5u {P:Program} {k:TypeId} (K:Maps.Keyed P k) {l:List UInt8} (h:∃kl,keyOf P k (A8 l)=some kl):WideAt.IsKeyLit (A2t P k l):=by
 have h1:=B2m h;generalize A2t P k l=q at *;exact K.key h1
theorem D3h:∀l,A4l l=A2t Tryz.prog 23 l:=fun l=>rfl
attribute [irreducible] A4l A2t
theorem B1t {l:List UInt8} (hl:l.length=32):WideAt.IsKeyLit (A4l l):=by
 have h:=C5u Kx (D2r l hl);rw[←D3h]at h;exact h
theorem D4n {l m:List UInt8} (hl:l.length=32) (hm:m.length=32) (h:l≠m):A4l l≠A4l m:=fun e=>h (D1v (Kx.inj (Ue hl) (by rw[e];exact Ue hm)))
section
theorem B0j {W W':World} {B:Nat} {row:Option Nat} (hg:W.grownBy W' row) (hr:∀r,row=some r→∃o:Obj,W.heap[r]?=some o∧o.isCells=false):∀ {t:Tr} {p:Value},At W B t p→At W' B t p
 | .e,_,h=>h
 | .lf _ _,_,⟨g',h1,h2,h3,h4,h5⟩=>⟨g',h1,h2,h3,h4,Db h5 hg hr⟩
 | .nd _ _,_,⟨g',pl,pr,h1,h2,h3,h4,h5⟩=>⟨g',pl,pr,h1,h2,Db h3 hg hr,B0j hg hr h4,B0j hg hr h5⟩
section
variable {F : Fence} {nF : Nat} {Q : Exit → Act → World → Prop} {ops : Array Oper} {rest : List Oper} {o : Oper} {a : Act} {w : World}
end
end
end Go.Proofs.YtlegpkdighoflaaGreat
