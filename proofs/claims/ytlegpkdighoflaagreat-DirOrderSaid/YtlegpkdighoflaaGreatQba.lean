/- A part of the proof of DirOrder. -/
import Derived.OrdersIn
import Derived.RangeFuncCalls
import Derived.CallsIn
import Derived.TacticsInMore
import Derived.OwnWalkIn
import Derived.Sort.QuietThIn
import Derived.RangeFuncNested
import Derived.RangeFuncBound
import Derived.RangeFuncLeaves
import Derived.RangeFuncKeeps
import Derived.Shelf.Abstract
import Derived.Shelf.RegionOpen
import Derived.WalkKit
import Derived.Outline
import Derived.ProofKit
import Derived.OpenShut
import Derived.ShutString
import Derived.Deep.Slices
import Derived.Laws.StructEq
import Derived.Maps.OwnSet
import Derived.Maps.OwnIn
import Derived.WideKeyArr
import Derived.Test.YtlegpkdighoflaaGreatQay
import Derived.Test.YtlegpkdighoflaaGreatQaz
set_option linter.unusedVariables false
set_option linter.unusedSimpArgs false
set_option maxRecDepth 100000
set_option maxHeartbeats 40000000
namespace Go.Proofs.YtlegpkdighoflaaGreat
open Go Go.RowKit Sh
section
variable {F : Fence} {n : Nat} {P : Program} {ops : Array Oper} {md : Region.Mode} {S : World → Prop}
variable {l : List Oper} {Q : Exit → Act → World → Prop} {a : Act} {w : World}
end
section
attribute [local go_sem] Oper.semAt_some
end
section
variable {H : Type} {enc : TypeId × Value → H} {P : Program} {w : World} {base : Nat} {spare : Nat → Bool} {held : Bool}
end
section
variable {H : Type} {enc : TypeId × Value → H} {P : Program} {w : World} {base : Nat} {spare : Nat → Bool} {held : Bool}
end
section
open Go.ChangeAt Go.ChangeShapes Go.WideShapes
section
variable {H : Type} {enc : TypeId × Value → H} {P : Program} {w : World} {base : Nat} {spare : Nat → Bool} {held : Bool}
end
noncomputable def Yi:Field:=(U1 Tryz.prog 96).getD 0 default
noncomputable def Yl:Field:=(U1 Tryz.prog 96).getD 1 default
end
theorem C0p:(Tryz.prog.fieldsOf 96).toList=[Yi,Yl]:=by kernel_rfl
theorem C1m:Tryz.prog.underlying 96=some (.struct (Tryz.prog.fieldsOf 96)):=by kernel_rfl
theorem pf0 : (Yi.name, Yi.type, Yi.offset) = ("Key", 23, 0) := by kernel_rfl
theorem pf1 : (Yl.name, Yl.type, Yl.offset) = ("Value", 23, 32) := by kernel_rfl
theorem A2s (w:World) (l:List UInt8) (o:Nat) (h:o+32≤l.length):(part 23 (c8 l).toArray o).run Tryz.prog w=.ok (A8 ((l.drop o).take 32)) w:=by
 have hi:(Tryz.prog.info? 23).map (·.size)=some 32:=O7;cases hq:Tryz.prog.info? 23 with
 | none=>simp[hq]at hi
 | some j=>
  have hj:j.size=32:=by simpa [hq] using hi
  have e:(c8 l).toArray.extract o (o+32)=(c8 ((l.drop o).take 32)).toArray:=by apply Array.ext';simp[c8,List.extract_eq_take_drop,List.map_take,List.map_drop]
  unfold part isAgg;simp only[Sem.run_bind,run_underlying Tryz.underlying23,Result.andThen_ok,Sem.run_pure,if_true,sizeOf,typeInfo];simp[hq,hj,e,A8];simp[c8,List.map_take,List.map_drop]
theorem A1o {P : Program} (w : World) (d : Nat) (xs ys : Array Value) (f0 f1 : Field) (a0 b0 a1 b1 : Value) (r0 r1 : Bool) (n0 : f0.name ≠ "_") (n1 : f1.name ≠ "_")
 (p0:(part f0.type xs f0.offset).run P w=.ok a0 w) (q0:(part f0.type ys f0.offset).run P w=.ok b0 w) (e0:(Op.equalIn d f0.type a0 b0).run P w=.ok r0 w)
 (p1:(part f1.type xs f1.offset).run P w=.ok a1 w) (q1:(part f1.type ys f1.offset).run P w=.ok b1 w) (e1:(Op.equalIn d f1.type a1 b1).run P w=.ok r1 w):(Op.eqFields d xs ys [f0,f1]).run P w=.ok (r0&&r1) w:=by
 unfold Op.eqFields;rw[if_pos n0];simp only[Sem.run_bind,p0,q0,e0,Result.andThen_ok];cases r0
 ·simp
 ·simp only[Bool.not_true,Bool.false_eq_true,if_false];unfold Op.eqFields;rw[if_pos n1];simp only[Sem.run_bind,p1,q1,e1,Result.andThen_ok];cases r1
  ·simp
  ·simp[Op.eqFields]
theorem C5u {p q:Pr} (hp:Mg p) (hq:Mg q):(pb p==pb q)=((p.1==q.1)&&(p.2==q.2)):=by
 rw[Bool.eq_iff_iff];simp only[beq_iff_eq,Bool.and_eq_true,pb];constructor
 ·intro h;exact List.append_inj h (by rw[hp.1,hq.1])
 ·rintro ⟨h1,h2⟩;rw[h1,h2]
theorem C2s (w:World):(sizeOf 5).run Tryz.prog w=.ok 1 w:=by
 cases hq:Tryz.prog.info? 5 with
 | none=>have:=A0q;simp[hq]at this
 | some j=>have:=A0q;simp[hq]at this;simp[sizeOf,typeInfo,hq,this]
theorem Mo (w:World) (d:Nat) (xs ys:List UInt8) (hx:xs.length=32) (hy:ys.length=32):(Op.equalIn (d+2) 23 (A8 xs) (A8 ys)).run Tryz.prog w=.ok (xs==ys) w:=
 run_equalIn_bytes (P:=Tryz.prog) w d 23 5 32 Tryz.underlying23 Tryz.underlying5 C2s xs ys hx hy
theorem A4r (w:World) (r:Pr) (hr:Mg r):(part 23 (c8 (pb r)).toArray 0).run Tryz.prog w=.ok (A8 r.1) w:=by
 have h0:=A2s w (pb r) 0 (by rw[hr.len];omega);have k0:((pb r).drop 0).take 32=r.1:=by simp[pb,hr.1]
 exact h0.trans (congrArg (fun l=>Result.ok (A8 l) w) k0)
theorem A5a (w:World) (r:Pr) (hr:Mg r):(part 23 (c8 (pb r)).toArray 32).run Tryz.prog w=.ok (A8 r.2) w:=by
 have h0:=A2s w (pb r) 32 (by rw[hr.len];omega);have k0:((pb r).drop 32).take 32=r.2:=by simp[pb,hr.1,hr.2,List.take_of_length_le]
 exact h0.trans (congrArg (fun l=>Result.ok (A8 l) w) k0)
theorem D2d:Tryz.prog.stoodInHeld 96=false:=by kernel_rfl
theorem Ty (w:World) (d:Nat) (p q:Pr) (hp:Mg p) (hq:Mg q):(Op.equalIn (d+3) 96 (A8 (pb p)) (A8 (pb q))).run Tryz.prog w=.ok (pb p==pb q) w:=by
 have e0:=pf0;have e1:=pf1;simp only[Prod.mk.injEq]at e0 e1;obtain⟨n0,t0,o0⟩:=e0;obtain⟨n1,t1,o1⟩:=e1;rw[C5u hp hq];refine (run_equalIn_struct (P:=Tryz.prog) w (d+2) 96 (c8 (pb p)).toArray (c8 (pb q)).toArray C1m D2d).trans ?_;rw[C0p];refine A1o w (d+2) _ _ Yi Yl (A8 p.1) (A8 q.1) (A8 p.2) (A8 q.2) _ _ (by rw[n0];decide) (by rw[n1];decide) ?_ ?_ ?_ ?_ ?_ ?_
 ·rw[t0,o0];exact A4r w p hp
 ·rw[t0,o0];exact A4r w q hq
 ·rw[t0];exact Mo w d _ _ hp.1 hq.1
 ·rw[t1,o1];exact A5a w p hp
 ·rw[t1,o1];exact A5a w q hq
 ·rw[t1];exact Mo w d _ _ hp.2 hq.2
theorem B3g:Tryz.prog.eqGuardType Tryz.prog.depth 96=false:=by kernel_rfl
noncomputable def A1v (v:Value):Option Pr:=match Cj v with | some l=>if l.length=64 then some (l.take 32,l.drop 32) else none | none=>none
noncomputable def C4k (neg:Bool) (w:World) (raw:Result Next) (a b:Value):Result Next:=
 match A1v a,A1v b with
 | some p,some q=>.ok (.value (.bool (neg != (pb p==pb q)))) w
 | _,_=>raw
theorem A0c {v:Value} {p:Pr} (h:A1v v=some p):v=A8 (pb p)∧Mg p:=by
 unfold A1v at h;cases hl:Cj v with
 | none=>rw[hl]at h;cases h
 | some l=>
  rw[hl]at h;simp only at h;split at h
  ·rename_i h64
   injection h with h;subst h;refine ⟨?_,by simp[Mg,h64]⟩;rw[U7 hl];simp[pb]
  ·cases h
@[go_sem ↓ high] theorem D4w (w : World) (ρ : Operand → Value) (dst : Option Tmp) (ty : TypeId) (pos : String) (after : Array Edge) (guard : Option (Nat × Bool)) (x y : Operand) (yt : TypeId) :
 (execOp ρ { dst,op:=.binOp .neq 96 x y yt,type:=ty,pos,after,guard }).run Tryz.prog w=C4k true w (N8 Tryz.prog ρ { dst,op:=.binOp .neq 96 x y yt,type:=ty,pos,after,guard } w) (ρ x) (ρ y):=by
 generalize hv:ρ x=a;generalize hz:ρ y=b;unfold C4k;split
 ·rename_i p q h1 h2
  obtain⟨h1,hp⟩:=A0c h1;obtain⟨h2,hq⟩:=A0c h2;have aA:(eqGuard .neq 96 x y a b).run Tryz.prog w=.ok () w:=by rw[h1,h2];exact run_eqGuard_agg (P:=Tryz.prog) w .neq 96 x y _ _ B3g
  have e1:(binOp .neq 96 a b).run Tryz.prog w=.ok (.bool (!(pb p==pb q))) w:=by rw[h1,h2,A8,A8,run_neq_struct];exact congrArg (fun r:Result Bool=>r.andThen fun b w'=>Result.ok (Value.bool (!b)) w') (Ty w 9997 p q hp hq)
  simp only[execOp,hv,hz,Sem.run_bind,aA,Result.andThen_ok,e1,Sem.run_pure];simp
 ·rfl
section
@[go_sem ↓ high] theorem Yo {P : Program} {w : World} (l : Nat) (ρ : Operand → Value) (o : Oper) (h : (match o.op with | .defer _ => false | _ => true) = true) : (Oper.semAt (some l) ρ o).run P w = (execOp ρ o).run P w := by
 rw[Oper.semAt_eq];intro c e;rw[e]at h;cases h
@[go_sem ↓ high] theorem A9v {P : Program} {w : World} (F : Fence) (l : Nat) (ρ : Operand → Value) (o : Oper) (h : (match o.op with | .defer _ => false | _ => true) = true) : (Oper.semAt (F.inRound l).round ρ o).run P w = (execOp ρ o).run P w := Yo l ρ o h
attribute [local go_sem] Oper.semAt_some
theorem Nw {A B:World} {row:Option Nat} {g:Nat} {t:TypeId} {cs:List Value} (h:Bk A g t cs) (hg:A.grownBy B row) (hr:∀r,row=some r→∃o:Obj,A.heap[r]?=some o∧o.isCells=false):Bk B g t cs:=by
 refine h.grown hg fun e=>?_;obtain⟨o,ho,hc⟩:=hr g e.symm;unfold Bk at h;rw[h]at ho;injection ho with ho;subst ho;cases hc
end
section
attribute [local go_sem] Oper.semAt_some
theorem A5z (t:Tr) (p:Value) (d:Int) (w:World) (h:At w w.heap.size t p) (hl:t.len≠1) :
 Calls Tryz.prog 82 #[.agg #[p,.int .i64 d]] w fun e w'=>e=.returned (.tuple #[A8 (z8 32),A8 (z8 32),.bool false])∧Below w.heap.size w w':=by
 obtain⟨ap,rfl⟩:=h.form;have aB:((t.len:Int) != 1)=true:=by rw[bne_iff_ne];omega
 go_enter Tryz.func82,Tryz.ntmps82;go_wp2_with fail;obtain⟨w0,aA⟩:=H8 (((w.alloc (Obj.cells #[.pointer ap,.int .i64 d] 31)).alloc (Obj.cells (c8 (z8 32)).toArray 23)).alloc (Obj.cells (c8 (z8 32)).toArray 23));rw[←aA];have B0:Below w.heap.size w w0:=by rw[aA];exact ((Bi _ _).alloc (by simp) _).alloc (by simp;omega) _
 have L0:Bk w0 (w.heap.size+1) 23 (c8 (z8 32)):=by rw[aA];exact (by simpa using Bk.new (w.alloc (Obj.cells #[.pointer ap,.int .i64 d] 31)) 23 (c8 (z8 32)):Bk _ _ _ _).alloc _
 have R0:Bk w0 (w.heap.size+1+1) 23 (c8 (z8 32)):=by rw[aA];simpa using Bk.new ((w.alloc (Obj.cells #[.pointer ap,.int .i64 d] 31)).alloc (Obj.cells (c8 (z8 32)).toArray 23)) 23 (c8 (z8 32))
 clear aA;refine (Gk t _ d w0 ((h.below B0).more B0.size)).mono ?_;rintro e w1 ⟨rfl,h1⟩;have L1:=L0.bl h1;have R1:=R0.bl h1;have B1:=J5 B0 h1;have aC:=Fu 32 L1 (by simp);have aD:=Fu 32 R1 (by simp);go_wp2_with fail;have La:=(L1.puts (vs:=c8 (z8 32)) (by simp)).putFar (p:=⟨w.heap.size+1+1,0,none⟩) (by simp) (c8 (z8 32));have Ra:=(R1.putFar (p:=⟨w.heap.size+1,0,none⟩) (by simp) (c8 (z8 32))).puts (vs:=c8 (z8 32)) (by simp);exact bodyPost_ret (Cb rfl (L6.row La rfl _ Tryz.underlying23 rfl (by simp[O7])) (L6.row Ra rfl _ Tryz.underlying23 rfl (by simp[O7])) (L6.tmp rfl)) rfl
  ⟨rfl,C5 (C5 B1 (by simp) _) (by simp;omega) _⟩
theorem B2u (k v:List UInt8) (p:Value) (d:Int) (w:World) (h:At w w.heap.size (.lf k v) p) :
 Calls Tryz.prog 82 #[.agg #[p,.int .i64 d]] w fun e w'=>e=.returned (.tuple #[A8 k,A8 v,.bool true])∧Below w.heap.size w w':=by
 have aB:=h;obtain⟨g,rfl,hg,hk,hv,hb⟩:=h;go_enter Tryz.func82,Tryz.ntmps82;go_wp2_with fail;obtain⟨w0,aA⟩:=H8 (((w.alloc (Obj.cells #[.pointer (some ⟨g,0,none⟩),.int .i64 d] 31)).alloc (Obj.cells (c8 (z8 32)).toArray 23)).alloc (Obj.cells (c8 (z8 32)).toArray 23));rw[←aA];have B0:Below w.heap.size w w0:=by rw[aA];exact ((Bi _ _).alloc (by simp) _).alloc (by simp;omega) _
 have T0:Bk w0 w.heap.size 31 [.pointer (some ⟨g,0,none⟩),.int .i64 d]:=by rw[aA];exact ((Bk.new w _ [.pointer (some ⟨g,0,none⟩),.int .i64 d]).alloc _).alloc _
 have L0:Bk w0 (w.heap.size+1) 23 (c8 (z8 32)):=by rw[aA];exact (by simpa using Bk.new (w.alloc (Obj.cells #[.pointer (some ⟨g,0,none⟩),.int .i64 d] 31)) 23 (c8 (z8 32)):Bk _ _ _ _).alloc _
 have R0:Bk w0 (w.heap.size+1+1) 23 (c8 (z8 32)):=by rw[aA];simpa using Bk.new ((w.alloc (Obj.cells #[.pointer (some ⟨g,0,none⟩),.int .i64 d] 31)).alloc (Obj.cells (c8 (z8 32)).toArray 23)) 23 (c8 (z8 32))
 clear aA;refine (Gk (.lf k v) _ d w0 ((aB.below B0).more B0.size)).mono ?_;rintro e w1 ⟨rfl,h1⟩;have T1:=T0.bl h1;have L1:=L0.bl h1;have R1:=R0.bl h1;have B1:=J5 B0 h1;have N1:=hb.below B1 hg;dsimp only[Tr.len];clear h1 aB hb T0 L0 R0 B0;go_wp2_with fail;refine Oe (A:=?A) (fun W=>Below (w.heap.size+1) w1 W) [0,1,2,3,4,5,6,7,8,9] [10,11,12] (by kernel_rfl) (by kernel_rfl) (by kernel_rfl) (by kernel_rfl) rfl rfl (by kernel_rfl) (by kernel_rfl) ?rS (fun W hW=>?rh) (fun hS=>?rt);case rS=>exact (Below.refl _ _).drew
 case rh=>have T2:=T1.below hW (by omega);have N2:=N1.below hW (by omega);have c0:W.cell? ⟨w.heap.size,0,none⟩=some (.pointer (some ⟨g,0,none⟩)):=T2.at_ rfl;have aC:=Wj N2 hk;have aD:=A8a N2 hk hv;clear T2 N2;exact Dd
 case rt=>
  simp only[Bv,Sb];have S1:Below (w.heap.size+1) w1 w1.drew:=(Below.refl _ _).drew;have aE:=Fu 32 L1 (by simp);have aF:=Fu 32 R1 (by simp);refine N6 (by rfl) (fun Q' hQ'=>?_);go_wp2_with fail;have S2:=C5 S1 (a:=⟨w.heap.size+1,0,none⟩) (by simp) (c8 k);refine hQ' _ _ S2 ?_;clear hQ';refine N6 (by rfl) (fun Q' hQ'=>?_);go_wp2_with fail;have S3:=C5 S2 (a:=⟨w.heap.size+1+1,0,none⟩) (by simp) (c8 v);refine hQ' _ _ S3 ?_;clear hQ';refine N6 (by rfl) (fun Q' hQ'=>?_);go_wp2_with fail;refine hQ' _ _ S3 ?_;clear hQ';refine Jw ?_;go_wp2_with fail;have La:=(L1.drew.puts (vs:=c8 k) (by simp[hk])).putFar (p:=⟨w.heap.size+1+1,0,none⟩) (by simp) (c8 v);have Ra:=(R1.drew.putFar (p:=⟨w.heap.size+1,0,none⟩) (by simp) (c8 k)).puts (vs:=c8 v) (by simp[hv]);exact bodyPost_ret (Cb rfl (L6.row La rfl _ Tryz.underlying23 rfl (by simp[O7,hk])) (L6.row Ra rfl _ Tryz.underlying23 rfl (by simp[O7,hv])) (L6.tmp rfl)) rfl
   ⟨rfl,C5 (C5 B1.drew (by simp) _) (by simp;omega) _⟩
end
theorem B0c:WideMaps.ArrKey Tryz.prog 23 5 32:=⟨Tryz.underlying23,by kernel_rfl,by kernel_rfl,by kernel_rfl⟩
theorem Iu:Maps.Keyed Tryz.prog 23:=Maps.Keyed.of_law B0c.law
theorem A7l:∃m,Tryz.prog.types.size=m+1:=⟨Tryz.prog.types.size-1,by kernel_rfl⟩
theorem Zv {α β:Type} {f:α→Option β}:∀(l:List α),(∀x∈l,∃y,f x=some y)→∃ys,l.mapM f=some ys
 | [],_=>⟨[],rfl⟩
 | x::l,h=>by
  obtain⟨y,hy⟩:=h x (by simp);obtain⟨ys,aA⟩:=Zv l (fun z hz=>h z (by simp[hz]));exact ⟨y::ys,by simp[List.mapM_cons,hy,aA]⟩
theorem D1a (x:UInt8):(Lit.int .u8 (n8 x)).wf=true:=by
 have:=x.toNat_lt;simp[Lit.wf,n8,IntKind.min,IntKind.max,IntKind.bits,IntKind.signed];omega
theorem B4s {P:Program} {k e:TypeId} (A:WideMaps.ArrKey P k e 32) (he:P.underlying e=some (.int .u8)) (hsz:∃m,P.types.size=m+1) {l:List UInt8} (hl:l.length=32):∃kl,keyOf P k (A8 l)=some kl:=by
 have aA:=A.keyType hsz;obtain⟨m,hm⟩:=hsz;unfold keyOf;simp only[A.hu];rw[if_pos (by simp[aA,Value.formed,A.hu,A.size,A8,hl]),hm];unfold Program.keyLits;simp only[A.hu,Value.cells,A8];rw[if_pos (by rw[A.size];simp[hl])];obtain⟨ys,aB⟩:∃ys,(List.range 32).mapM (fun i=>P.keyLits (m+1) e (((c8 l).drop (i*P.cellsOf e)).take (P.cellsOf e)))=some ys:=by
  refine Zv _ fun i hi=>?_;have hi:i<32:=by simpa using hi
  obtain⟨x,hx⟩:∃x,l[i]?=some x:=⟨_,List.getElem?_eq_getElem (by omega)⟩;have e1:((c8 l).drop (i*1)).take 1=[v8 x]:=by
   rw[Nat.mul_one];obtain⟨aC,rfl⟩:=List.getElem?_eq_some_iff.1 hx;rw[List.drop_eq_getElem_cons (by simpa using aC)];simp[c8]
  rw[A.one,e1];unfold Program.keyLits;simp only[he,v8];rw[if_pos ⟨trivial,D1a x⟩];exact ⟨_,rfl⟩
 simp only[aB];exact ⟨_,rfl⟩
theorem B6w (l:List UInt8) (hl:l.length=32):∃kl,keyOf Tryz.prog 23 (A8 l)=some kl:=B4s B0c Tryz.underlying5 A7l hl
noncomputable def Wy (P:Program) (k:TypeId) (l:List UInt8):Lit:=(keyOf P k (A8 l)).getD (.bool false)
theorem A4n {P:Program} {k:TypeId} {l:List UInt8} (h:∃kl,keyOf P k (A8 l)=some kl):keyOf P k (A8 l)=some (Wy P k l):=by
 obtain⟨kl,h⟩:=h;rw[Wy,h];rfl
noncomputable def Za (l:List UInt8):Lit:=Wy Tryz.prog 23 l
theorem Pu {l:List UInt8} (hl:l.length=32):keyOf Tryz.prog 23 (A8 l)=some (Za l):=A4n (B6w l hl)
theorem B1g {P:Program} {k:TypeId} (K:Maps.Keyed P k) {l:List UInt8} (h:∃kl,keyOf P k (A8 l)=some kl):WideAt.IsKeyLit (Wy P k l):=by
 have h1:=A4n h;generalize Wy P k l=q at *;exact K.key h1
theorem B4e:∀l,Za l=Wy Tryz.prog 23 l:=fun l=>rfl
attribute [irreducible] Za Wy
theorem A4c {l:List UInt8} (hl:l.length=32):WideAt.IsKeyLit (Za l):=by
 have h:=B1g Iu (B6w l hl);rw[←B4e]at h;exact h
theorem C1u {l m:List UInt8} (hl:l.length=32) (hm:m.length=32) (h:l≠m):Za l≠Za m:=fun e=>h (B7l (Iu.inj (Pu hl) (by rw[e];exact Pu hm)))
section
theorem A1a {W W':World} {B:Nat} {row:Option Nat} (hg:W.grownBy W' row) (hr:∀r,row=some r→∃o:Obj,W.heap[r]?=some o∧o.isCells=false):∀ {t:Tr} {p:Value},At W B t p→At W' B t p
 | .e,_,h=>h
 | .lf _ _,_,⟨g',h1,h2,h3,h4,h5⟩=>⟨g',h1,h2,h3,h4,Nw h5 hg hr⟩
 | .nd _ _,_,⟨g',pl,pr,h1,h2,h3,h4,h5⟩=>⟨g',pl,pr,h1,h2,Nw h3 hg hr,A1a hg hr h4,A1a hg hr h5⟩
section
variable {F : Fence} {nF : Nat} {Q : Exit → Act → World → Prop} {ops : Array Oper} {rest : List Oper} {o : Oper} {a : Act} {w : World}
end
end
section
set_option maxRecDepth 100000
set_option maxHeartbeats 0
def eu7:Ev:=⟨[16,197,224,146,7,123,127,67,130,181,43,239,236,226,104,100,148,68,232,144,220,147,43,135,0,147,97,176,170,232,101,64],[33,220,87,58,213,242,237,244,2,67,50,13,52,109,43,134,229,184,135,216,211,180,6,45,208,117,95,98,100,107,43,92],[177,114,40,244,97,179,179,74,125,237,21,51,231,183,83,224,212,54,151,38,145,119,225,40,254,75,92,166,151,185,84,211],[119,105,116,97,110,1,0,0,0,0,0,0,0,40,0,0,0,0,0,0,0,1,7,0,0,0,0,0,0,0,0,0,0,0,0,0,0,0,0,0,0,0,0,0,0,0,0,0,0,0,0,0,0,0],[247,22,202,105,21,17,171,169,252,115,26,137,19,178,42,216,230,191,70,156,186,107,118,183,19,153,166,23,85,249,102,135],[146,100,6,215,188,65,31,77,19,60,85,246,231,2,77,40,16,96,63,98,211,214,46,22,97,141,51,169,79,61,1,10],[174,41,46,15,156,85,233,253,168,80,87,28,102,129,33,169,115,18,70,231,67,128,60,186,62,148,76,47,145,28,36,8],[59,93,69,1,94,56,77,120,231,127,230,77,179,120,171,24,31,73,138,234,245,63,127,81,181,69,246,165,175,82,119,14],[5557232744515658898,2903980530017319955,1598451121137868816,720924827706428769],[18296249089927293358,12187164342203404456,13419742018788528755,586625261354390590],⟨1041658219623089,1379211670432086,665047021997791,1687838139336851,1465973697308100⟩,⟨1456681880963056,204809188601391,2237597991503810,1582213442195770,456360724212396⟩,⟨⟨795117932722173,2046990625083856,14201822181437,669586371489477,1795439089472851⟩,⟨1041658219623089,1379211670432086,665047021997791,1687838139336851,1465973697308100⟩,⟨1,0,0,0,0⟩,⟨68731895403346,588668742248203,939969796075866,588955438987827,359522209716866⟩⟩,⟨⟨1456681880963056,204809188601391,2237597991503810,1582213442195770,456360724212396⟩,⟨1041658219623089,1379211670432086,665047021997791,1687838139336851,1465973697308100⟩,⟨1,0,0,0,0⟩,⟨2183067918281883,1663131071437044,1311830017609381,1662844374697420,1892277603968381⟩⟩⟩
theorem E0l:Og (Bp 7 3) 1 (h1 7)=⟨eu7.B,1,h1 7,eu7.F++eu7.SB⟩∧U8 (Og (Bp 7 3) 1 (h1 7))=true:=Ev.upd (by decide +kernel) (by decide +kernel) (by decide +kernel) (by decide +kernel) (by decide +kernel) (by decide +kernel)
end
end Go.Proofs.YtlegpkdighoflaaGreat
