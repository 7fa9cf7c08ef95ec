/- A part of the proof of AuditBatch. -/
import Derived.OrdersIn
import Derived.RangeFuncCalls
import Derived.CallsIn
import Derived.TacticsInMore
import Derived.OwnWalkIn
import Derived.Sort.QuietThIn
import Derived.RangeFuncNested
import Derived.RangeFuncBound
import Derived.RangeFuncLeaves
import Derived.RangeFuncKeeps
import Derived.Shelf.Abstract
import Derived.Shelf.RegionOpen
import Derived.WalkKit
import Derived.Outline
import Derived.ProofKit
import Derived.OpenShut
import Derived.ShutString
import Derived.Deep.Slices
import Derived.Laws.StructEq
import Derived.Maps.OwnSet
import Derived.Maps.OwnIn
import Derived.WideKeyArr
import Derived.Test.YtdfpoofbgjilgaaGreatUau
set_option linter.unusedVariables false
set_option linter.unusedSimpArgs false
set_option maxRecDepth 100000
set_option maxHeartbeats 40000000
namespace Go.Proofs.YtdfpoofbgjilgaaGreat
open Go Go.RowKit Sh
section
attribute [local go_sem] Oper.semAt_some
end
section
open Go.ChangeAt Go.ChangeShapes Go.WideShapes
end
section
open Go.ChangeAt Go.ChangeShapes Go.WideShapes
end
section
open Go.ChangeAt Go.ChangeShapes Go.WideShapes
end
section
attribute [local go_sem] Oper.semAt_some
theorem Pa {A B:World} {row:Option Nat} {g:Nat} {t:TypeId} {cs:List Value} (h:Bk A g t cs) (hg:A.grownBy B row) (hr:∀r,row=some r→∃o:Obj,A.heap[r]?=some o∧o.isCells=false):Bk B g t cs:=by
 refine h.grown hg fun e=>?_;obtain⟨o,ho,hc⟩:=hr g e.symm;unfold Bk at h;rw[h]at ho;injection ho with ho;subst ho;cases hc
end
section
attribute [local go_sem] Oper.semAt_some
theorem B1c (t:Tr) (p:Value) (d:Int) (w:World) (h:At w w.heap.size t p) (hl:t.len≠1) :
 Calls Tryz.prog 147 #[.agg #[p,.int .i64 d]] w fun e w'=>e=.returned (.tuple #[A8 (z8 32),A8 (z8 32),.bool false])∧Below w.heap.size w w':=by
 obtain⟨ap,rfl⟩:=h.form;have aB:((t.len:Int) != 1)=true:=by rw[bne_iff_ne];omega
 go_enter Tryz.func147,Tryz.ntmps147;go_wp2_with fail;obtain⟨w0,aA⟩:∃x,x=((w.alloc (Obj.cells #[.pointer ap,.int .i64 d] 53)).alloc (Obj.cells (c8 (z8 32)).toArray 35)).alloc (Obj.cells (c8 (z8 32)).toArray 35):=⟨_,rfl⟩;rw[←aA];have B0:Below w.heap.size w w0:=by rw[aA];exact (((Below.refl _ _).alloc (Nat.le_refl _) _).alloc (by simp) _).alloc (by simp;omega) _
 have L0:Bk w0 (w.heap.size+1) 35 (c8 (z8 32)):=by rw[aA];exact (by simpa using Bk.new (w.alloc (Obj.cells #[.pointer ap,.int .i64 d] 53)) 35 (c8 (z8 32)):Bk _ _ _ _).alloc _
 have R0:Bk w0 (w.heap.size+1+1) 35 (c8 (z8 32)):=by rw[aA];simpa using Bk.new ((w.alloc (Obj.cells #[.pointer ap,.int .i64 d] 53)).alloc (Obj.cells (c8 (z8 32)).toArray 35)) 35 (c8 (z8 32))
 clear aA;refine (Fi t _ d w0 ((h.below B0).more B0.size)).mono ?_;rintro e w1 ⟨rfl,h1⟩;have L1:=L0.below h1 L0.lt;have R1:=R0.below h1 R0.lt;have B1:=C0 B0 h1 B0.size;have aC:E4 w1 ⟨w.heap.size+1,0,none⟩ 32=true:=L1.can (by simp);have aD:E4 w1 ⟨w.heap.size+1+1,0,none⟩ 32=true:=R1.can (by simp);go_wp2_with fail;have La:=(L1.puts (vs:=c8 (z8 32)) (by simp)).putFar (p:=⟨w.heap.size+1+1,0,none⟩) (by simp) (c8 (z8 32));have Ra:=(R1.putFar (p:=⟨w.heap.size+1,0,none⟩) (by simp) (c8 (z8 32))).puts (vs:=c8 (z8 32)) (by simp);exact bodyPost_ret (J4 rfl (C9.row La rfl _ Tryz.underlying35 rfl (by simp[J5])) (C9.row Ra rfl _ Tryz.underlying35 rfl (by simp[J5])) (C9.tmp rfl)) rfl
  ⟨rfl,C1 (C1 B1 (by simp) _) (by simp;omega) _⟩
theorem C2t (k v:List UInt8) (p:Value) (d:Int) (w:World) (h:At w w.heap.size (.lf k v) p) :
 Calls Tryz.prog 147 #[.agg #[p,.int .i64 d]] w fun e w'=>e=.returned (.tuple #[A8 k,A8 v,.bool true])∧Below w.heap.size w w':=by
 have aB:=h;obtain⟨g,rfl,hg,hk,hv,hb⟩:=h;go_enter Tryz.func147,Tryz.ntmps147;go_wp2_with fail;obtain⟨w0,aA⟩:∃x,x=((w.alloc (Obj.cells #[.pointer (some ⟨g,0,none⟩),.int .i64 d] 53)).alloc (Obj.cells (c8 (z8 32)).toArray 35)).alloc (Obj.cells (c8 (z8 32)).toArray 35):=⟨_,rfl⟩;rw[←aA];have B0:Below w.heap.size w w0:=by rw[aA];exact (((Below.refl _ _).alloc (Nat.le_refl _) _).alloc (by simp) _).alloc (by simp;omega) _
 have T0:Bk w0 w.heap.size 53 [.pointer (some ⟨g,0,none⟩),.int .i64 d]:=by rw[aA];exact ((Bk.new w _ [.pointer (some ⟨g,0,none⟩),.int .i64 d]).alloc _).alloc _
 have L0:Bk w0 (w.heap.size+1) 35 (c8 (z8 32)):=by rw[aA];exact (by simpa using Bk.new (w.alloc (Obj.cells #[.pointer (some ⟨g,0,none⟩),.int .i64 d] 53)) 35 (c8 (z8 32)):Bk _ _ _ _).alloc _
 have R0:Bk w0 (w.heap.size+1+1) 35 (c8 (z8 32)):=by rw[aA];simpa using Bk.new ((w.alloc (Obj.cells #[.pointer (some ⟨g,0,none⟩),.int .i64 d] 53)).alloc (Obj.cells (c8 (z8 32)).toArray 35)) 35 (c8 (z8 32))
 clear aA;refine (Fi (.lf k v) _ d w0 ((aB.below B0).more B0.size)).mono ?_;rintro e w1 ⟨rfl,h1⟩;have T1:=T0.below h1 T0.lt;have L1:=L0.below h1 L0.lt;have R1:=R0.below h1 R0.lt;have B1:=C0 B0 h1 B0.size;have N1:=hb.below B1 hg;have z1:=R1.lt;dsimp only[Tr.len];clear h1 aB hb T0 L0 R0 B0;go_wp2_with fail;refine Mh (A:=?A) (fun W=>Below (w.heap.size+1) w1 W) [0,1,2,3,4,5,6,7,8,9] [10,11,12] (by kernel_rfl) (by kernel_rfl) (by kernel_rfl) (by kernel_rfl) rfl rfl (by kernel_rfl) (by kernel_rfl) ?rS (fun W hW=>?rh) (fun hS=>?rt);case rS=>exact (Below.refl _ _).drew
 case rh=>
  have T2:=T1.below hW (by omega);have N2:=N1.below hW (by omega);have c0:W.cell? ⟨w.heap.size,0,none⟩=some (.pointer (some ⟨g,0,none⟩)):=T2.at_ rfl;have aC:=Zm N2 hk;have aD:=B6u N2 hk hv;clear T2 N2;simp only[pick,List.getElem?_cons_zero,List.getElem?_cons_succ];repeat (go_big_quiet_step (fail))
  refine wpQuiet_nil ?_;rfl
 case rt=>
  simp only[pick,List.getElem?_cons_zero,List.getElem?_cons_succ];have S1:Below (w.heap.size+1) w1 w1.drew:=(Below.refl _ _).drew;have aE:E4 w1.drew ⟨w.heap.size+1,0,none⟩ 32=true:=L1.can (by simp);have aF:E4 w1.drew ⟨w.heap.size+1+1,0,none⟩ 32=true:=R1.can (by simp);refine F9 (by rfl) (fun Q' hQ'=>?_);go_wp2_with fail;have S2:=C1 S1 (a:=⟨w.heap.size+1,0,none⟩) (by simp) (c8 k);refine hQ' _ _ S2 ?_;clear hQ';refine F9 (by rfl) (fun Q' hQ'=>?_);go_wp2_with fail;have S3:=C1 S2 (a:=⟨w.heap.size+1+1,0,none⟩) (by simp) (c8 v);refine hQ' _ _ S3 ?_;clear hQ';refine F9 (by rfl) (fun Q' hQ'=>?_);go_wp2_with fail;refine hQ' _ _ S3 ?_;clear hQ';refine Gq ?_;go_wp2_with fail;have La:=(L1.drew.puts (vs:=c8 k) (by simp[hk])).putFar (p:=⟨w.heap.size+1+1,0,none⟩) (by simp) (c8 v);have Ra:=(R1.drew.putFar (p:=⟨w.heap.size+1,0,none⟩) (by simp) (c8 k)).puts (vs:=c8 v) (by simp[hv]);exact bodyPost_ret (J4 rfl (C9.row La rfl _ Tryz.underlying35 rfl (by simp[J5,hk])) (C9.row Ra rfl _ Tryz.underlying35 rfl (by simp[J5,hv])) (C9.tmp rfl)) rfl
   ⟨rfl,C1 (C1 B1.drew (by simp) _) (by simp;omega) _⟩
end
theorem B9c:WideMaps.ArrKey Tryz.prog 35 5 32:=⟨Tryz.underlying35,by kernel_rfl,by kernel_rfl,by kernel_rfl⟩
theorem Cm:Maps.Keyed Tryz.prog 35:=Maps.Keyed.of_law B9c.law
theorem B7j:∃m,Tryz.prog.types.size=m+1:=⟨Tryz.prog.types.size-1,by kernel_rfl⟩
theorem A5b {α β:Type} {f:α→Option β}:∀(l:List α),(∀x∈l,∃y,f x=some y)→∃ys,l.mapM f=some ys
 | [],_=>⟨[],rfl⟩
 | x::l,h=>by
  obtain⟨y,hy⟩:=h x (by simp);obtain⟨ys,aA⟩:=A5b l (fun z hz=>h z (by simp[hz]));exact ⟨y::ys,by simp[List.mapM_cons,hy,aA]⟩
theorem E8y (x:UInt8):(Lit.int .u8 (n8 x)).wf=true:=by
 have:=x.toNat_lt;simp[Lit.wf,n8,IntKind.min,IntKind.max,IntKind.bits,IntKind.signed];omega
theorem C4n {P:Program} {k e:TypeId} (A:WideMaps.ArrKey P k e 32) (he:P.underlying e=some (.int .u8)) (hsz:∃m,P.types.size=m+1) {l:List UInt8} (hl:l.length=32):∃kl,keyOf P k (A8 l)=some kl:=by
 have aA:=A.keyType hsz;obtain⟨m,hm⟩:=hsz;unfold keyOf;simp only[A.hu];rw[if_pos (by simp[aA,Value.formed,A.hu,A.size,A8,hl]),hm];unfold Program.keyLits;simp only[A.hu,Value.cells,A8];rw[if_pos (by rw[A.size];simp[hl])];obtain⟨ys,aB⟩:∃ys,(List.range 32).mapM (fun i=>P.keyLits (m+1) e (((c8 l).drop (i*P.cellsOf e)).take (P.cellsOf e)))=some ys:=by
  refine A5b _ fun i hi=>?_;have hi:i<32:=by simpa using hi
  obtain⟨x,hx⟩:∃x,l[i]?=some x:=⟨_,List.getElem?_eq_getElem (by omega)⟩;have e1:((c8 l).drop (i*1)).take 1=[v8 x]:=by
   rw[Nat.mul_one];obtain⟨aC,rfl⟩:=List.getElem?_eq_some_iff.1 hx;rw[List.drop_eq_getElem_cons (by simpa using aC)];simp[c8]
  rw[A.one,e1];unfold Program.keyLits;simp only[he,v8];rw[if_pos ⟨trivial,E8y x⟩];exact ⟨_,rfl⟩
 simp only[aB];exact ⟨_,rfl⟩
theorem C5j (l:List UInt8) (hl:l.length=32):∃kl,keyOf Tryz.prog 35 (A8 l)=some kl:=C4n B9c Tryz.underlying5 B7j hl
noncomputable def A0q (P:Program) (k:TypeId) (l:List UInt8):Lit:=(keyOf P k (A8 l)).getD (.bool false)
theorem B1j {P:Program} {k:TypeId} {l:List UInt8} (h:∃kl,keyOf P k (A8 l)=some kl):keyOf P k (A8 l)=some (A0q P k l):=by
 obtain⟨kl,h⟩:=h;rw[A0q,h];rfl
noncomputable def Uy (l:List UInt8):Lit:=A0q Tryz.prog 35 l
theorem Gd {l:List UInt8} (hl:l.length=32):keyOf Tryz.prog 35 (A8 l)=some (Uy l):=B1j (C5j l hl)
theorem C1a {P:Program} {k:TypeId} (K:Maps.Keyed P k) {l:List UInt8} (h:∃kl,keyOf P k (A8 l)=some kl):WideAt.IsKeyLit (A0q P k l):=by
 have h1:=B1j h;generalize A0q P k l=q at *;exact K.key h1
theorem C6y:∀l,Uy l=A0q Tryz.prog 35 l:=fun l=>rfl
attribute [irreducible] Uy A0q
theorem B0r {l:List UInt8} (hl:l.length=32):WideAt.IsKeyLit (Uy l):=by
 have h:=C1a Cm (C5j l hl);rw[←C6y]at h;exact h
theorem D1t {l m:List UInt8} (hl:l.length=32) (hm:m.length=32) (h:l≠m):Uy l≠Uy m:=fun e=>h (C4w (Cm.inj (Gd hl) (by rw[e];exact Gd hm)))
theorem A3o {T:Tr} (ok:Okt T) {k v k':List UInt8} (hk:k.length=32) (hv:v.length=32):(Rx T k v).look k' 0=if k'=k then some v else T.look k' 0:=by
 have aA:=ok.put hk hv;by_cases h:k'=k
 ·subst h;rw[if_pos rfl];exact (Cj aA).2 ((Zt ok hk _).2 (.inl rfl))
 ·rw[if_neg h];cases hT:T.look k' 0 with
  | some x=>exact (Cj aA).2 ((Zt ok hk _).2 (.inr ⟨(Cj ok).1 hT,h⟩))
  | none=>
   cases hp:(Rx T k v).look k' 0 with
   | none=>rfl
   | some x=>
    rcases (Zt ok hk _).1 ((Cj aA).1 hp) with e | ⟨h1,_⟩
    ·cases e;exact absurd rfl h
    ·rw[(Cj ok).2 h1]at hT;cases hT
theorem A6z {W W':World} {B:Nat} {row:Option Nat} (hg:W.grownBy W' row) (hr:∀r,row=some r→∃o:Obj,W.heap[r]?=some o∧o.isCells=false):∀ {t:Tr} {p:Value},At W B t p→At W' B t p
 | .e,_,h=>h
 | .lf _ _,_,⟨g',h1,h2,h3,h4,h5⟩=>⟨g',h1,h2,h3,h4,Pa h5 hg hr⟩
 | .nd _ _,_,⟨g',pl,pr,h1,h2,h3,h4,h5⟩=>⟨g',pl,pr,h1,h2,Pa h3 hg hr,A6z hg hr h4,A6z hg hr h5⟩
end Go.Proofs.YtdfpoofbgjilgaaGreat
