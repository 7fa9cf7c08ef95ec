/- A part of the proof of ClientForks. -/
import Derived.OrdersIn
import Derived.RangeFuncCalls
import Derived.CallsIn
import Derived.TacticsInMore
import Derived.OwnWalkIn
import Derived.Sort.QuietThIn
import Derived.RangeFuncNested
import Derived.RangeFuncBound
import Derived.RangeFuncLeaves
import Derived.RangeFuncKeeps
import Derived.Shelf.Abstract
import Derived.Shelf.RegionOpen
import Derived.WalkKit
import Derived.Outline
import Derived.ProofKit
import Derived.OpenShut
import Derived.ShutString
import Derived.Deep.Slices
import Derived.Laws.StructEq
import Derived.Maps.OwnSet
import Derived.Maps.OwnIn
import Derived.WideKeyArr
import Derived.Test.YtdfpoofbgjilgaaGreatVau
set_option linter.unusedVariables false
set_option linter.unusedSimpArgs false
set_option maxRecDepth 100000
set_option maxHeartbeats 40000000
namespace Go.Proofs.YtdfpoofbgjilgaaGreat
open Go Go.RowKit Sh
section
attribute [local go_sem] Oper.semAt_some
end
section
open Go.ChangeAt Go.ChangeShapes Go.WideShapes
end
section
open Go.ChangeAt Go.ChangeShapes Go.WideShapes
end
section
open Go.ChangeAt Go.ChangeShapes Go.WideShapes
noncomputable def A0f:Field:=(I2 Tryz.prog 198).getD 0 default
noncomputable def A0v:Field:=(I2 Tryz.prog 198).getD 1 default
end
theorem D4q:(Tryz.prog.fieldsOf 198).toList=[A0f,A0v]:=by kernel_rfl
theorem D4f:Tryz.prog.underlying 198=some (.struct (Tryz.prog.fieldsOf 198)):=by kernel_rfl
theorem D9o : (A0f.name, A0f.type, A0f.offset) = ("Key", 35, 0) := by kernel_rfl
theorem E1m : (A0v.name, A0v.type, A0v.offset) = ("Value", 35, 32) := by kernel_rfl
theorem B1b (w:World) (l:List UInt8) (o:Nat) (h:o+32≤l.length):(part 35 (c8 l).toArray o).run Tryz.prog w=.ok (A8 ((l.drop o).take 32)) w:=by
 have hi:(Tryz.prog.info? 35).map (·.size)=some 32:=I8;cases hq:Tryz.prog.info? 35 with
 | none=>simp[hq]at hi
 | some j=>
  have hj:j.size=32:=by simpa [hq] using hi
  have e:(c8 l).toArray.extract o (o+32)=(c8 ((l.drop o).take 32)).toArray:=by apply Array.ext';simp[c8,List.extract_eq_take_drop,List.map_take,List.map_drop]
  unfold part isAgg;simp only[Sem.run_bind,run_underlying Tryz.underlying35,Result.andThen_ok,Sem.run_pure,if_true,sizeOf,typeInfo];simp[hq,hj,e,A8];simp[c8,List.map_take,List.map_drop]
theorem Tj {P : Program} (w : World) (d : Nat) (xs ys : Array Value) (f0 f1 : Field) (a0 b0 a1 b1 : Value) (r0 r1 : Bool) (n0 : f0.name ≠ "_") (n1 : f1.name ≠ "_")
 (p0:(part f0.type xs f0.offset).run P w=.ok a0 w) (q0:(part f0.type ys f0.offset).run P w=.ok b0 w) (e0:(Op.equalIn d f0.type a0 b0).run P w=.ok r0 w)
 (p1:(part f1.type xs f1.offset).run P w=.ok a1 w) (q1:(part f1.type ys f1.offset).run P w=.ok b1 w) (e1:(Op.equalIn d f1.type a1 b1).run P w=.ok r1 w):(Op.eqFields d xs ys [f0,f1]).run P w=.ok (r0&&r1) w:=by
 unfold Op.eqFields;rw[if_pos n0];simp only[Sem.run_bind,p0,q0,e0,Result.andThen_ok];cases r0
 ·simp
 ·simp only[Bool.not_true,Bool.false_eq_true,if_false];unfold Op.eqFields;rw[if_pos n1];simp only[Sem.run_bind,p1,q1,e1,Result.andThen_ok];cases r1
  ·simp
  ·simp[Op.eqFields]
theorem D9m {p q:Pr} (hp:Kw p) (hq:Kw q):(pb p==pb q)=((p.1==q.1)&&(p.2==q.2)):=by
 rw[Bool.eq_iff_iff];simp only[beq_iff_eq,Bool.and_eq_true,pb];constructor
 ·intro h;exact List.append_inj h (by rw[hp.1,hq.1])
 ·rintro ⟨h1,h2⟩;rw[h1,h2]
theorem D2d (w:World):(sizeOf 5).run Tryz.prog w=.ok 1 w:=by
 cases hq:Tryz.prog.info? 5 with
 | none=>have:=A5k;simp[hq]at this
 | some j=>have:=A5k;simp[hq]at this;simp[sizeOf,typeInfo,hq,this]
theorem Fq (w:World) (d:Nat) (xs ys:List UInt8) (hx:xs.length=32) (hy:ys.length=32):(Op.equalIn (d+2) 35 (A8 xs) (A8 ys)).run Tryz.prog w=.ok (xs==ys) w:=
 run_equalIn_bytes (P:=Tryz.prog) w d 35 5 32 Tryz.underlying35 Tryz.underlying5 D2d xs ys hx hy
theorem B0a (w:World) (r:Pr) (hr:Kw r):(part 35 (c8 (pb r)).toArray 0).run Tryz.prog w=.ok (A8 r.1) w:=by
 have h0:=B1b w (pb r) 0 (by rw[hr.len];omega);have k0:((pb r).drop 0).take 32=r.1:=by simp[pb,hr.1]
 exact h0.trans (congrArg (fun l=>Result.ok (A8 l) w) k0)
theorem B0k (w:World) (r:Pr) (hr:Kw r):(part 35 (c8 (pb r)).toArray 32).run Tryz.prog w=.ok (A8 r.2) w:=by
 have h0:=B1b w (pb r) 32 (by rw[hr.len];omega);have k0:((pb r).drop 32).take 32=r.2:=by simp[pb,hr.1,hr.2,List.take_of_length_le]
 exact h0.trans (congrArg (fun l=>Result.ok (A8 l) w) k0)
theorem E7l:Tryz.prog.stoodInHeld 198=false:=by kernel_rfl
theorem Vb (w:World) (d:Nat) (p q:Pr) (hp:Kw p) (hq:Kw q):(Op.equalIn (d+3) 198 (A8 (pb p)) (A8 (pb q))).run Tryz.prog w=.ok (pb p==pb q) w:=by
 have e0:=D9o;have e1:=E1m;simp only[Prod.mk.injEq]at e0 e1;obtain⟨n0,t0,o0⟩:=e0;obtain⟨n1,t1,o1⟩:=e1;rw[D9m hp hq];refine (run_equalIn_struct (P:=Tryz.prog) w (d+2) 198 (c8 (pb p)).toArray (c8 (pb q)).toArray D4f E7l).trans ?_;rw[D4q];refine Tj w (d+2) _ _ A0f A0v (A8 p.1) (A8 q.1) (A8 p.2) (A8 q.2) _ _ (by rw[n0];decide) (by rw[n1];decide) ?_ ?_ ?_ ?_ ?_ ?_
 ·rw[t0,o0];exact B0a w p hp
 ·rw[t0,o0];exact B0a w q hq
 ·rw[t0];exact Fq w d _ _ hp.1 hq.1
 ·rw[t1,o1];exact B0k w p hp
 ·rw[t1,o1];exact B0k w q hq
 ·rw[t1];exact Fq w d _ _ hp.2 hq.2
theorem C4d:Tryz.prog.eqGuardType Tryz.prog.depth 198=false:=by kernel_rfl
noncomputable def A6a (v:Value):Option Pr:=match T5 v with | some l=>if l.length=64 then some (l.take 32,l.drop 32) else none | none=>none
noncomputable def D7m (neg:Bool) (w:World) (raw:Result Next) (a b:Value):Result Next:=
 match A6a a,A6a b with
 | some p,some q=>.ok (.value (.bool (neg != (pb p==pb q)))) w
 | _,_=>raw
theorem A4y {v:Value} {p:Pr} (h:A6a v=some p):v=A8 (pb p)∧Kw p:=by
 unfold A6a at h;cases hl:T5 v with
 | none=>rw[hl]at h;cases h
 | some l=>
  rw[hl]at h;simp only at h;split at h
  ·rename_i h64
   injection h with h;subst h;refine ⟨?_,by simp[Kw,h64]⟩;rw[J4 hl];simp[pb]
  ·cases h
@[go_sem ↓ high] theorem E6t (w : World) (ρ : Operand → Value) (dst : Option Tmp) (ty : TypeId) (pos : String) (after : Array Edge) (guard : Option (Nat × Bool)) (x y : Operand) (yt : TypeId) :
 (execOp ρ { dst,op:=.binOp .neq 198 x y yt,type:=ty,pos,after,guard }).run Tryz.prog w=D7m true w (F2 Tryz.prog ρ { dst,op:=.binOp .neq 198 x y yt,type:=ty,pos,after,guard } w) (ρ x) (ρ y):=by
 generalize hv:ρ x=a;generalize hz:ρ y=b;unfold D7m;split
 ·rename_i p q h1 h2
  obtain⟨h1,hp⟩:=A4y h1;obtain⟨h2,hq⟩:=A4y h2;have aA:(eqGuard .neq 198 x y a b).run Tryz.prog w=.ok () w:=by rw[h1,h2];exact run_eqGuard_agg (P:=Tryz.prog) w .neq 198 x y _ _ C4d
  have e1:(binOp .neq 198 a b).run Tryz.prog w=.ok (.bool (!(pb p==pb q))) w:=by rw[h1,h2,A8,A8,run_neq_struct];exact congrArg (fun r:Result Bool=>r.andThen fun b w'=>Result.ok (Value.bool (!b)) w') (Vb w 9997 p q hp hq)
  simp only[execOp,hv,hz,Sem.run_bind,aA,Result.andThen_ok,e1,Sem.run_pure];simp
 ·rfl
section
@[go_sem ↓ high] theorem A0k {P : Program} {w : World} (l : Nat) (ρ : Operand → Value) (o : Oper) (h : (match o.op with | .defer _ => false | _ => true) = true) : (Oper.semAt (some l) ρ o).run P w = (execOp ρ o).run P w := by
 rw[Oper.semAt_eq];intro c e;rw[e]at h;cases h
@[go_sem ↓ high] theorem B9e {P : Program} {w : World} (F : Fence) (l : Nat) (ρ : Operand → Value) (o : Oper) (h : (match o.op with | .defer _ => false | _ => true) = true) : (Oper.semAt (F.inRound l).round ρ o).run P w = (execOp ρ o).run P w := A0k l ρ o h
attribute [local go_sem] Oper.semAt_some
theorem Nu {A B:World} {row:Option Nat} {g:Nat} {t:TypeId} {cs:List Value} (h:Bk A g t cs) (hg:A.grownBy B row) (hr:∀r,row=some r→∃o:Obj,A.heap[r]?=some o∧o.isCells=false):Bk B g t cs:=by
 refine h.grown hg fun e=>?_;obtain⟨o,ho,hc⟩:=hr g e.symm;unfold Bk at h;rw[h]at ho;injection ho with ho;subst ho;cases hc
end
section
attribute [local go_sem] Oper.semAt_some
theorem B0p (t:Tr) (p:Value) (d:Int) (w:World) (h:At w w.heap.size t p) (hl:t.len≠1) :
 Calls Tryz.prog 147 #[.agg #[p,.int .i64 d]] w fun e w'=>e=.returned (.tuple #[A8 (z8 32),A8 (z8 32),.bool false])∧Below w.heap.size w w':=by
 obtain⟨ap,rfl⟩:=h.form;have aB:((t.len:Int) != 1)=true:=by rw[bne_iff_ne];omega
 go_enter Tryz.func147,Tryz.ntmps147;go_wp2_with fail;obtain⟨w0,aA⟩:∃x,x=((w.alloc (Obj.cells #[.pointer ap,.int .i64 d] 53)).alloc (Obj.cells (c8 (z8 32)).toArray 35)).alloc (Obj.cells (c8 (z8 32)).toArray 35):=⟨_,rfl⟩;rw[←aA];have B0:Below w.heap.size w w0:=by rw[aA];exact (((Below.refl _ _).alloc (Nat.le_refl _) _).alloc (by simp) _).alloc (by simp;omega) _
 have L0:Bk w0 (w.heap.size+1) 35 (c8 (z8 32)):=by rw[aA];exact (by simpa using Bk.new (w.alloc (Obj.cells #[.pointer ap,.int .i64 d] 53)) 35 (c8 (z8 32)):Bk _ _ _ _).alloc _
 have R0:Bk w0 (w.heap.size+1+1) 35 (c8 (z8 32)):=by rw[aA];simpa using Bk.new ((w.alloc (Obj.cells #[.pointer ap,.int .i64 d] 53)).alloc (Obj.cells (c8 (z8 32)).toArray 35)) 35 (c8 (z8 32))
 clear aA;refine (Fi t _ d w0 ((h.below B0).more B0.size)).mono ?_;rintro e w1 ⟨rfl,h1⟩;have L1:=L0.below h1 L0.lt;have R1:=R0.below h1 R0.lt;have B1:=C1 B0 h1 B0.size;have aC:E7 w1 ⟨w.heap.size+1,0,none⟩ 32=true:=L1.can (by simp);have aD:E7 w1 ⟨w.heap.size+1+1,0,none⟩ 32=true:=R1.can (by simp);go_wp2_with fail;have La:=(L1.puts (vs:=c8 (z8 32)) (by simp)).putFar (p:=⟨w.heap.size+1+1,0,none⟩) (by simp) (c8 (z8 32));have Ra:=(R1.putFar (p:=⟨w.heap.size+1,0,none⟩) (by simp) (c8 (z8 32))).puts (vs:=c8 (z8 32)) (by simp);exact bodyPost_ret (X6 rfl (H9.row La rfl _ Tryz.underlying35 rfl (by simp[I8])) (H9.row Ra rfl _ Tryz.underlying35 rfl (by simp[I8])) (H9.tmp rfl)) rfl
  ⟨rfl,C0 (C0 B1 (by simp) _) (by simp;omega) _⟩
theorem C2a (k v:List UInt8) (p:Value) (d:Int) (w:World) (h:At w w.heap.size (.lf k v) p) :
 Calls Tryz.prog 147 #[.agg #[p,.int .i64 d]] w fun e w'=>e=.returned (.tuple #[A8 k,A8 v,.bool true])∧Below w.heap.size w w':=by
 have aB:=h;obtain⟨g,rfl,hg,hk,hv,hb⟩:=h;go_enter Tryz.func147,Tryz.ntmps147;go_wp2_with fail;obtain⟨w0,aA⟩:∃x,x=((w.alloc (Obj.cells #[.pointer (some ⟨g,0,none⟩),.int .i64 d] 53)).alloc (Obj.cells (c8 (z8 32)).toArray 35)).alloc (Obj.cells (c8 (z8 32)).toArray 35):=⟨_,rfl⟩;rw[←aA];have B0:Below w.heap.size w w0:=by rw[aA];exact (((Below.refl _ _).alloc (Nat.le_refl _) _).alloc (by simp) _).alloc (by simp;omega) _
 have T0:Bk w0 w.heap.size 53 [.pointer (some ⟨g,0,none⟩),.int .i64 d]:=by rw[aA];exact ((Bk.new w _ [.pointer (some ⟨g,0,none⟩),.int .i64 d]).alloc _).alloc _
 have L0:Bk w0 (w.heap.size+1) 35 (c8 (z8 32)):=by rw[aA];exact (by simpa using Bk.new (w.alloc (Obj.cells #[.pointer (some ⟨g,0,none⟩),.int .i64 d] 53)) 35 (c8 (z8 32)):Bk _ _ _ _).alloc _
 have R0:Bk w0 (w.heap.size+1+1) 35 (c8 (z8 32)):=by rw[aA];simpa using Bk.new ((w.alloc (Obj.cells #[.pointer (some ⟨g,0,none⟩),.int .i64 d] 53)).alloc (Obj.cells (c8 (z8 32)).toArray 35)) 35 (c8 (z8 32))
 clear aA;refine (Fi (.lf k v) _ d w0 ((aB.below B0).more B0.size)).mono ?_;rintro e w1 ⟨rfl,h1⟩;have T1:=T0.below h1 T0.lt;have L1:=L0.below h1 L0.lt;have R1:=R0.below h1 R0.lt;have B1:=C1 B0 h1 B0.size;have N1:=hb.below B1 hg;have z1:=R1.lt;dsimp only[Tr.len];clear h1 aB hb T0 L0 R0 B0;go_wp2_with fail;refine Ot (A:=?A) (fun W=>Below (w.heap.size+1) w1 W) [0,1,2,3,4,5,6,7,8,9] [10,11,12] (by kernel_rfl) (by kernel_rfl) (by kernel_rfl) (by kernel_rfl) rfl rfl (by kernel_rfl) (by kernel_rfl) ?rS (fun W hW=>?rh) (fun hS=>?rt);case rS=>exact (Below.refl _ _).drew
 case rh=>
  have T2:=T1.below hW (by omega);have N2:=N1.below hW (by omega);have c0:W.cell? ⟨w.heap.size,0,none⟩=some (.pointer (some ⟨g,0,none⟩)):=T2.at_ rfl;have aC:=A0z N2 hk;have aD:=B4d N2 hk hv;clear T2 N2;simp only[pick,List.getElem?_cons_zero,List.getElem?_cons_succ];repeat (go_big_quiet_step (fail))
  refine wpQuiet_nil ?_;rfl
 case rt=>
  simp only[pick,List.getElem?_cons_zero,List.getElem?_cons_succ];have S1:Below (w.heap.size+1) w1 w1.drew:=(Below.refl _ _).drew;have aE:E7 w1.drew ⟨w.heap.size+1,0,none⟩ 32=true:=L1.can (by simp);have aF:E7 w1.drew ⟨w.heap.size+1+1,0,none⟩ 32=true:=R1.can (by simp);refine H8 (by rfl) (fun Q' hQ'=>?_);go_wp2_with fail;have S2:=C0 S1 (a:=⟨w.heap.size+1,0,none⟩) (by simp) (c8 k);refine hQ' _ _ S2 ?_;clear hQ';refine H8 (by rfl) (fun Q' hQ'=>?_);go_wp2_with fail;have S3:=C0 S2 (a:=⟨w.heap.size+1+1,0,none⟩) (by simp) (c8 v);refine hQ' _ _ S3 ?_;clear hQ';refine H8 (by rfl) (fun Q' hQ'=>?_);go_wp2_with fail;refine hQ' _ _ S3 ?_;clear hQ';refine Gy ?_;go_wp2_with fail;have La:=(L1.drew.puts (vs:=c8 k) (by simp[hk])).putFar (p:=⟨w.heap.size+1+1,0,none⟩) (by simp) (c8 v);have Ra:=(R1.drew.putFar (p:=⟨w.heap.size+1,0,none⟩) (by simp) (c8 k)).puts (vs:=c8 v) (by simp[hv]);exact bodyPost_ret (X6 rfl (H9.row La rfl _ Tryz.underlying35 rfl (by simp[I8,hk])) (H9.row Ra rfl _ Tryz.underlying35 rfl (by simp[I8,hv])) (H9.tmp rfl)) rfl
   ⟨rfl,C0 (C0 B1.drew (by simp) _) (by simp;omega) _⟩
end
theorem A6i:WideMaps.ArrKey Tryz.prog 35 5 32:=⟨Tryz.underlying35,by kernel_rfl,by kernel_rfl,by kernel_rfl⟩
theorem Gq:Maps.Keyed Tryz.prog 35:=Maps.Keyed.of_law A6i.law
theorem B4u:∃m,Tryz.prog.types.size=m+1:=⟨Tryz.prog.types.size-1,by kernel_rfl⟩
theorem A5h {α β:Type} {f:α→Option β}:∀(l:List α),(∀x∈l,∃y,f x=some y)→∃ys,l.mapM f=some ys
 | [],_=>⟨[],rfl⟩
 | x::l,h=>by
  obtain⟨y,hy⟩:=h x (by simp);obtain⟨ys,aA⟩:=A5h l (fun z hz=>h z (by simp[hz]));exact ⟨y::ys,by simp[List.mapM_cons,hy,aA]⟩
theorem E9c (x:UInt8):(Lit.int .u8 (n8 x)).wf=true:=by
 have:=x.toNat_lt;simp[Lit.wf,n8,IntKind.min,IntKind.max,IntKind.bits,IntKind.signed];omega
theorem C7o {P:Program} {k e:TypeId} (A:WideMaps.ArrKey P k e 32) (he:P.underlying e=some (.int .u8)) (hsz:∃m,P.types.size=m+1) {l:List UInt8} (hl:l.length=32):∃kl,keyOf P k (A8 l)=some kl:=by
 have aA:=A.keyType hsz;obtain⟨m,hm⟩:=hsz;unfold keyOf;simp only[A.hu];rw[if_pos (by simp[aA,Value.formed,A.hu,A.size,A8,hl]),hm];unfold Program.keyLits;simp only[A.hu,Value.cells,A8];rw[if_pos (by rw[A.size];simp[hl])];obtain⟨ys,aB⟩:∃ys,(List.range 32).mapM (fun i=>P.keyLits (m+1) e (((c8 l).drop (i*P.cellsOf e)).take (P.cellsOf e)))=some ys:=by
  refine A5h _ fun i hi=>?_;have hi:i<32:=by simpa using hi
  obtain⟨x,hx⟩:∃x,l[i]?=some x:=⟨_,List.getElem?_eq_getElem (by omega)⟩;have e1:((c8 l).drop (i*1)).take 1=[v8 x]:=by
   rw[Nat.mul_one];obtain⟨aC,rfl⟩:=List.getElem?_eq_some_iff.1 hx;rw[List.drop_eq_getElem_cons (by simpa using aC)];simp[c8]
  rw[A.one,e1];unfold Program.keyLits;simp only[he,v8];rw[if_pos ⟨trivial,E9c x⟩];exact ⟨_,rfl⟩
 simp only[aB];exact ⟨_,rfl⟩
theorem D0l (l:List UInt8) (hl:l.length=32):∃kl,keyOf Tryz.prog 35 (A8 l)=some kl:=C7o A6i Tryz.underlying5 B4u hl
noncomputable def A2t (P:Program) (k:TypeId) (l:List UInt8):Lit:=(keyOf P k (A8 l)).getD (.bool false)
theorem B2h {P:Program} {k:TypeId} {l:List UInt8} (h:∃kl,keyOf P k (A8 l)=some kl):keyOf P k (A8 l)=some (A2t P k l):=by
 obtain⟨kl,h⟩:=h;rw[A2t,h];rfl
noncomputable def Zz (l:List UInt8):Lit:=A2t Tryz.prog 35 l
theorem Kp {l:List UInt8} (hl:l.length=32):keyOf Tryz.prog 35 (A8 l)=some (Zz l):=B2h (D0l l hl)
theorem C2z {P:Program} {k:TypeId} (K:Maps.Keyed P k) {l:List UInt8} (h:∃kl,keyOf P k (A8 l)=some kl):WideAt.IsKeyLit (A2t P k l):=by
 have h1:=B2h h;generalize A2t P k l=q at *;exact K.key h1
theorem C6l:∀l,Zz l=A2t Tryz.prog 35 l:=fun l=>rfl
attribute [irreducible] Zz A2t
theorem A9x {l:List UInt8} (hl:l.length=32):WideAt.IsKeyLit (Zz l):=by
 have h:=C2z Gq (D0l l hl);rw[←C6l]at h;exact h
theorem D5c {l m:List UInt8} (hl:l.length=32) (hm:m.length=32) (h:l≠m):Zz l≠Zz m:=fun e=>h (C6f (Gq.inj (Kp hl) (by rw[e];exact Kp hm)))
theorem A2b {W W':World} {B:Nat} {row:Option Nat} (hg:W.grownBy W' row) (hr:∀r,row=some r→∃o:Obj,W.heap[r]?=some o∧o.isCells=false):∀ {t:Tr} {p:Value},At W B t p→At W' B t p
 | .e,_,h=>h
 | .lf _ _,_,⟨g',h1,h2,h3,h4,h5⟩=>⟨g',h1,h2,h3,h4,Nu h5 hg hr⟩
 | .nd _ _,_,⟨g',pl,pr,h1,h2,h3,h4,h5⟩=>⟨g',pl,pr,h1,h2,Nu h3 hg hr,A2b hg hr h4,A2b hg hr h5⟩
end Go.Proofs.YtdfpoofbgjilgaaGreat
