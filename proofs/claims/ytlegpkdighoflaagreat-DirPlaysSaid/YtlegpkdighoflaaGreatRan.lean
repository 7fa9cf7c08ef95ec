/- A part of the proof of DirPlays. -/
import Derived.ProofKit
import Derived.OpenShut
import Derived.ShutString
import Derived.Deep.Slices
import Derived.Laws.StructEq
import Derived.RangeFuncNested
import Derived.Outline
import Derived.RangeFuncBound
import Derived.RangeFuncCalls
import Derived.RangeFuncLeaves
import Derived.RangeFuncKeeps
import Derived.Shelf.Abstract
import Derived.Shelf.RegionOpen
import Derived.WalkKit
import Derived.OwnWalkIn
import Derived.TacticsInMore
import Derived.Test.YtlegpkdighoflaaGreatRam
set_option linter.unusedVariables false
set_option linter.unusedSimpArgs false
set_option maxRecDepth 100000
set_option maxHeartbeats 40000000
namespace Go.Proofs.YtlegpkdighoflaaGreat
open Go Go.RowKit Sh
section
variable {H : Type} {enc : TypeId × Value → H} {P : Program} {w : World} {base : Nat} {spare : Nat → Bool} {held : Bool}
end
section
variable {H : Type} {enc : TypeId × Value → H} {P : Program} {w : World} {base : Nat} {spare : Nat → Bool} {held : Bool}
end
section
open Go.ChangeAt Go.ChangeShapes Go.WideShapes
section
variable {H : Type} {enc : TypeId × Value → H} {P : Program} {w : World} {base : Nat} {spare : Nat → Bool} {held : Bool}
end
noncomputable def A3n:Field:=(S4 Tryz.prog 96).getD 0 default
noncomputable def A5i:Field:=(S4 Tryz.prog 96).getD 1 default
end
theorem D6p:(Tryz.prog.fieldsOf 96).toList=[A3n,A5i]:=by kernel_rfl
theorem D5v:Tryz.prog.underlying 96=some (.struct (Tryz.prog.fieldsOf 96)):=by kernel_rfl
theorem pf0 : (A3n.name, A3n.type, A3n.offset) = ("Key", 23, 0) := by kernel_rfl
theorem pf1 : (A5i.name, A5i.type, A5i.offset) = ("Value", 23, 32) := by kernel_rfl
theorem B2f (w:World) (l:List UInt8) (o:Nat) (h:o+32≤l.length):(part 23 (c8 l).toArray o).run Tryz.prog w=.ok (A8 ((l.drop o).take 32)) w:=by
 have hi:(Tryz.prog.info? 23).map (·.size)=some 32:=J9;cases hq:Tryz.prog.info? 23 with
 | none=>simp[hq]at hi
 | some j=>
  have hj:j.size=32:=by simpa [hq] using hi
  have e:(c8 l).toArray.extract o (o+32)=(c8 ((l.drop o).take 32)).toArray:=by apply Array.ext';simp[c8,List.extract_eq_take_drop,List.map_take,List.map_drop]
  unfold part isAgg;simp only[Sem.run_bind,run_underlying Tryz.underlying23,Result.andThen_ok,Sem.run_pure,if_true,sizeOf,typeInfo];simp[hq,hj,e,A8];simp[c8,List.map_take,List.map_drop]
theorem A9t {P : Program} (w : World) (d : Nat) (xs ys : Array Value) (f0 f1 : Field) (a0 b0 a1 b1 : Value) (r0 r1 : Bool) (n0 : f0.name ≠ "_") (n1 : f1.name ≠ "_")
 (p0:(part f0.type xs f0.offset).run P w=.ok a0 w) (q0:(part f0.type ys f0.offset).run P w=.ok b0 w) (e0:(Op.equalIn d f0.type a0 b0).run P w=.ok r0 w)
 (p1:(part f1.type xs f1.offset).run P w=.ok a1 w) (q1:(part f1.type ys f1.offset).run P w=.ok b1 w) (e1:(Op.equalIn d f1.type a1 b1).run P w=.ok r1 w):(Op.eqFields d xs ys [f0,f1]).run P w=.ok (r0&&r1) w:=by
 unfold Op.eqFields;rw[if_pos n0];simp only[Sem.run_bind,p0,q0,e0,Result.andThen_ok];cases r0
 ·simp
 ·simp only[Bool.not_true,Bool.false_eq_true,if_false];unfold Op.eqFields;rw[if_pos n1];simp only[Sem.run_bind,p1,q1,e1,Result.andThen_ok];cases r1
  ·simp
  ·simp[Op.eqFields]
theorem E2u {p q:Pr} (hp:Gp p) (hq:Gp q):(pb p==pb q)=((p.1==q.1)&&(p.2==q.2)):=by
 rw[Bool.eq_iff_iff];simp only[beq_iff_eq,Bool.and_eq_true,pb];constructor
 ·intro h;exact List.append_inj h (by rw[hp.1,hq.1])
 ·rintro ⟨h1,h2⟩;rw[h1,h2]
theorem size_u8 (w:World):(sizeOf 5).run Tryz.prog w=.ok 1 w:=by
 cases hq:Tryz.prog.info? 5 with
 | none=>have:=A7j;simp[hq]at this
 | some j=>have:=A7j;simp[hq]at this;simp[sizeOf,typeInfo,hq,this]
theorem Qa (w:World) (d:Nat) (xs ys:List UInt8) (hx:xs.length=32) (hy:ys.length=32):(Op.equalIn (d+2) 23 (A8 xs) (A8 ys)).run Tryz.prog w=.ok (xs==ys) w:=
 run_equalIn_bytes (P:=Tryz.prog) w d 23 5 32 Tryz.underlying23 Tryz.underlying5 size_u8 xs ys hx hy
theorem B3h (w:World) (r:Pr) (hr:Gp r):(part 23 (c8 (pb r)).toArray 0).run Tryz.prog w=.ok (A8 r.1) w:=by
 have h0:=B2f w (pb r) 0 (by rw[hr.len];omega);have k0:((pb r).drop 0).take 32=r.1:=by simp[pb,hr.1]
 exact h0.trans (congrArg (fun l=>Result.ok (A8 l) w) k0)
theorem B4t (w:World) (r:Pr) (hr:Gp r):(part 23 (c8 (pb r)).toArray 32).run Tryz.prog w=.ok (A8 r.2) w:=by
 have h0:=B2f w (pb r) 32 (by rw[hr.len];omega);have k0:((pb r).drop 32).take 32=r.2:=by simp[pb,hr.1,hr.2,List.take_of_length_le]
 exact h0.trans (congrArg (fun l=>Result.ok (A8 l) w) k0)
theorem F2w:Tryz.prog.stoodInHeld 96=false:=by kernel_rfl
theorem Zf (w:World) (d:Nat) (p q:Pr) (hp:Gp p) (hq:Gp q):(Op.equalIn (d+3) 96 (A8 (pb p)) (A8 (pb q))).run Tryz.prog w=.ok (pb p==pb q) w:=by
 have e0:=pf0;have e1:=pf1;simp only[Prod.mk.injEq]at e0 e1;obtain⟨n0,t0,o0⟩:=e0;obtain⟨n1,t1,o1⟩:=e1;rw[E2u hp hq];refine (run_equalIn_struct (P:=Tryz.prog) w (d+2) 96 (c8 (pb p)).toArray (c8 (pb q)).toArray D5v F2w).trans ?_;rw[D6p];refine A9t w (d+2) _ _ A3n A5i (A8 p.1) (A8 q.1) (A8 p.2) (A8 q.2) _ _ (by rw[n0];decide) (by rw[n1];decide) ?_ ?_ ?_ ?_ ?_ ?_
 ·rw[t0,o0];exact B3h w p hp
 ·rw[t0,o0];exact B3h w q hq
 ·rw[t0];exact Qa w d _ _ hp.1 hq.1
 ·rw[t1,o1];exact B4t w p hp
 ·rw[t1,o1];exact B4t w q hq
 ·rw[t1];exact Qa w d _ _ hp.2 hq.2
theorem C5x:Tryz.prog.eqGuardType Tryz.prog.depth 96=false:=by kernel_rfl
noncomputable def A9w (v:Value):Option Pr:=match Dq v with | some l=>if l.length=64 then some (l.take 32,l.drop 32) else none | none=>none
noncomputable def D9p (neg:Bool) (w:World) (raw:Result Next) (a b:Value):Result Next:=
 match A9w a,A9w b with
 | some p,some q=>.ok (.value (.bool (neg != (pb p==pb q)))) w
 | _,_=>raw
theorem A7i {v:Value} {p:Pr} (h:A9w v=some p):v=A8 (pb p)∧Gp p:=by
 unfold A9w at h;cases hl:Dq v with
 | none=>rw[hl]at h;cases h
 | some l=>
  rw[hl]at h;simp only at h;split at h
  ·rename_i h64
   injection h with h;subst h;refine ⟨?_,by simp[Gp,h64]⟩;rw[U8 hl];simp[pb]
  ·cases h
@[go_sem ↓ high] theorem E6u (w : World) (ρ : Operand → Value) (dst : Option Tmp) (ty : TypeId) (pos : String) (after : Array Edge) (guard : Option (Nat × Bool)) (x y : Operand) (yt : TypeId) :
 (execOp ρ { dst,op:=.binOp .neq 96 x y yt,type:=ty,pos,after,guard }).run Tryz.prog w=D9p true w (L3 Tryz.prog ρ { dst,op:=.binOp .neq 96 x y yt,type:=ty,pos,after,guard } w) (ρ x) (ρ y):=by
 generalize hv:ρ x=a;generalize hz:ρ y=b;unfold D9p;split
 ·rename_i p q h1 h2
  obtain⟨h1,hp⟩:=A7i h1;obtain⟨h2,hq⟩:=A7i h2;have aA:(eqGuard .neq 96 x y a b).run Tryz.prog w=.ok () w:=by rw[h1,h2];exact run_eqGuard_agg (P:=Tryz.prog) w .neq 96 x y _ _ C5x
  have e1:(binOp .neq 96 a b).run Tryz.prog w=.ok (.bool (!(pb p==pb q))) w:=by rw[h1,h2,A8,A8,run_neq_struct];exact congrArg (fun r:Result Bool=>r.andThen fun b w'=>Result.ok (Value.bool (!b)) w') (Zf w 9997 p q hp hq)
  simp only[execOp,hv,hz,Sem.run_bind,aA,Result.andThen_ok,e1,Sem.run_pure];simp
 ·rfl
section
@[go_sem ↓ high] theorem A4d {P : Program} {w : World} (l : Nat) (ρ : Operand → Value) (o : Oper) (h : (match o.op with | .defer _ => false | _ => true) = true) : (Oper.semAt (some l) ρ o).run P w = (execOp ρ o).run P w := by
 rw[Oper.semAt_eq];intro c e;rw[e]at h;cases h
@[go_sem ↓ high] theorem C1o {P : Program} {w : World} (F : Fence) (l : Nat) (ρ : Operand → Value) (o : Oper) (h : (match o.op with | .defer _ => false | _ => true) = true) : (Oper.semAt (F.inRound l).round ρ o).run P w = (execOp ρ o).run P w := A4d l ρ o h
attribute [local go_sem] Oper.semAt_some
theorem Db {A B:World} {row:Option Nat} {g:Nat} {t:TypeId} {cs:List Value} (h:Bk A g t cs) (hg:A.grownBy B row) (hr:∀r,row=some r→∃o:Obj,A.heap[r]?=some o∧o.isCells=false):Bk B g t cs:=by
 refine h.grown hg fun e=>?_;obtain⟨o,ho,hc⟩:=hr g e.symm;unfold Bk at h;rw[h]at ho;injection ho with ho;subst ho;cases hc
end
section
attribute [local go_sem] Oper.semAt_some
theorem E2v {F:Fence} {n:Nat} {P:Program} {ops:Array Oper} {Q:Exit→Act→World→Prop} {o:Oper} {rest:List Oper} {a:Act} {w:World} (hF:Free F) (hg:o.guard=none) (hd:∀c,o.op≠.defer c)
 (h:∀Q':Exit→Act→World→Prop,(∀a' w',wpListIn F n P ops Q rest a' w'→Q' .normal a' w')→wpList P #[o] Q' [o] a w):wpListIn F n P ops Q (o::rest) a w:=by
 have h1:=h (fun e a' w'=>e=.normal∧wpListIn F n P ops Q rest a' w') (fun a' w' h1=>⟨rfl,h1⟩);unfold wpList at h1;rw[if_pos (by simp[Region.wanted,hg])]at h1;unfold wpListIn;rw[if_pos (by simp[Region.wanted,hg])];rcases h1 with h1 | ⟨_,a,w,h2,_⟩
 ·exact A5x (fun a' w' h2=>h2.2) (fun e a' w' hne h2=>(hne h2.1).elim) (B0s hF hd h1)
 ·cases h2
theorem B5l (t:Tr) (p:Value) (d:Int) (w:World) (h:At w w.heap.size t p) (hl:t.len≠1) :
 Calls Tryz.prog 82 #[.agg #[p,.int .i64 d]] w fun e w'=>e=.returned (.tuple #[A8 (z8 32),A8 (z8 32),.bool false])∧Below w.heap.size w w':=by
 obtain⟨ap,rfl⟩:=h.form;have aB:((t.len:Int) != 1)=true:=by rw[bne_iff_ne];omega
 go_enter Tryz.func82,Tryz.ntmps82;go_wp2_with fail;obtain⟨w0,aA⟩:=E9 (((w.alloc (Obj.cells #[.pointer ap,.int .i64 d] 31)).alloc (Obj.cells (c8 (z8 32)).toArray 23)).alloc (Obj.cells (c8 (z8 32)).toArray 23));rw[←aA];have B0:Below w.heap.size w w0:=by rw[aA];exact ((Bh _ _).alloc (by simp) _).alloc (by simp;omega) _
 have L0:Bk w0 (w.heap.size+1) 23 (c8 (z8 32)):=by rw[aA];exact (by simpa using Bk.new (w.alloc (Obj.cells #[.pointer ap,.int .i64 d] 31)) 23 (c8 (z8 32)):Bk _ _ _ _).alloc _
 have R0:Bk w0 (w.heap.size+1+1) 23 (c8 (z8 32)):=by rw[aA];simpa using Bk.new ((w.alloc (Obj.cells #[.pointer ap,.int .i64 d] 31)).alloc (Obj.cells (c8 (z8 32)).toArray 23)) 23 (c8 (z8 32))
 clear aA;refine (Ig t _ d w0 ((h.below B0).more B0.size)).mono ?_;rintro e w1 ⟨rfl,h1⟩;have L1:=L0.bl h1;have R1:=R0.bl h1;have B1:=Q5 B0 h1;have aC:=Mh 32 L1 (by simp);have aD:=Mh 32 R1 (by simp);go_wp2_with fail;have La:=(L1.puts (vs:=c8 (z8 32)) (by simp)).putFar (p:=⟨w.heap.size+1+1,0,none⟩) (by simp) (c8 (z8 32));have Ra:=(R1.putFar (p:=⟨w.heap.size+1,0,none⟩) (by simp) (c8 (z8 32))).puts (vs:=c8 (z8 32)) (by simp);exact bodyPost_ret (Dg rfl (N7.row La rfl _ Tryz.underlying23 rfl (by simp[J9])) (N7.row Ra rfl _ Tryz.underlying23 rfl (by simp[J9])) (N7.tmp rfl)) rfl
  ⟨rfl,C0 (C0 B1 (by simp) _) (by simp;omega) _⟩
theorem C3u (k v:List UInt8) (p:Value) (d:Int) (w:World) (h:At w w.heap.size (.lf k v) p) :
 Calls Tryz.prog 82 #[.agg #[p,.int .i64 d]] w fun e w'=>e=.returned (.tuple #[A8 k,A8 v,.bool true])∧Below w.heap.size w w':=by
 have aB:=h;obtain⟨g,rfl,hg,hk,hv,hb⟩:=h;go_enter Tryz.func82,Tryz.ntmps82;go_wp2_with fail;obtain⟨w0,aA⟩:=E9 (((w.alloc (Obj.cells #[.pointer (some ⟨g,0,none⟩),.int .i64 d] 31)).alloc (Obj.cells (c8 (z8 32)).toArray 23)).alloc (Obj.cells (c8 (z8 32)).toArray 23));rw[←aA];have B0:Below w.heap.size w w0:=by rw[aA];exact ((Bh _ _).alloc (by simp) _).alloc (by simp;omega) _
 have T0:Bk w0 w.heap.size 31 [.pointer (some ⟨g,0,none⟩),.int .i64 d]:=by rw[aA];exact ((Bk.new w _ [.pointer (some ⟨g,0,none⟩),.int .i64 d]).alloc _).alloc _
 have L0:Bk w0 (w.heap.size+1) 23 (c8 (z8 32)):=by rw[aA];exact (by simpa using Bk.new (w.alloc (Obj.cells #[.pointer (some ⟨g,0,none⟩),.int .i64 d] 31)) 23 (c8 (z8 32)):Bk _ _ _ _).alloc _
 have R0:Bk w0 (w.heap.size+1+1) 23 (c8 (z8 32)):=by rw[aA];simpa using Bk.new ((w.alloc (Obj.cells #[.pointer (some ⟨g,0,none⟩),.int .i64 d] 31)).alloc (Obj.cells (c8 (z8 32)).toArray 23)) 23 (c8 (z8 32))
 clear aA;refine (Ig (.lf k v) _ d w0 ((aB.below B0).more B0.size)).mono ?_;rintro e w1 ⟨rfl,h1⟩;have T1:=T0.bl h1;have L1:=L0.bl h1;have R1:=R0.bl h1;have B1:=Q5 B0 h1;have N1:=hb.below B1 hg;dsimp only[Tr.len];clear h1 aB hb T0 L0 R0 B0;go_wp2_with fail;refine Lz (A:=?A) (fun W=>Below (w.heap.size+1) w1 W) [0,1,2,3,4,5,6,7,8,9] [10,11,12] (by kernel_rfl) (by kernel_rfl) (by kernel_rfl) (by kernel_rfl) rfl rfl (by kernel_rfl) (by kernel_rfl) ?rS (fun W hW=>?rh) (fun hS=>?rt);case rS=>exact (Below.refl _ _).drew
 case rh=>have T2:=T1.below hW (by omega);have N2:=N1.below hW (by omega);have c0:W.cell? ⟨w.heap.size,0,none⟩=some (.pointer (some ⟨g,0,none⟩)):=T2.at_ rfl;have aC:=Yn N2 hk;have aD:=A3b N2 hk hv;clear T2 N2;exact Gq
 case rt=>
  simp only[pick,Wt];have S1:Below (w.heap.size+1) w1 w1.drew:=(Below.refl _ _).drew;have aE:=Mh 32 L1 (by simp);have aF:=Mh 32 R1 (by simp);refine H9 (by rfl) (fun Q' hQ'=>?_);go_wp2_with fail;have S2:=C0 S1 (a:=⟨w.heap.size+1,0,none⟩) (by simp) (c8 k);refine hQ' _ _ S2 ?_;clear hQ';refine H9 (by rfl) (fun Q' hQ'=>?_);go_wp2_with fail;have S3:=C0 S2 (a:=⟨w.heap.size+1+1,0,none⟩) (by simp) (c8 v);refine hQ' _ _ S3 ?_;clear hQ';refine H9 (by rfl) (fun Q' hQ'=>?_);go_wp2_with fail;refine hQ' _ _ S3 ?_;clear hQ';refine He ?_;go_wp2_with fail;have La:=(L1.drew.puts (vs:=c8 k) (by simp[hk])).putFar (p:=⟨w.heap.size+1+1,0,none⟩) (by simp) (c8 v);have Ra:=(R1.drew.putFar (p:=⟨w.heap.size+1,0,none⟩) (by simp) (c8 k)).puts (vs:=c8 v) (by simp[hv]);exact bodyPost_ret (Dg rfl (N7.row La rfl _ Tryz.underlying23 rfl (by simp[J9,hk])) (N7.row Ra rfl _ Tryz.underlying23 rfl (by simp[J9,hv])) (N7.tmp rfl)) rfl
   ⟨rfl,C0 (C0 B1.drew (by simp) _) (by simp;omega) _⟩
def Kd2 (W:World) (row:Option Nat) (T:TypeId):Prop:=∀g,row=some g→∃cur fz,W.heap[g]?=some (.cells cur T fz)
theorem B0e {W:World} {base:Nat} {e:TypeId} {sz n:Nat} {v:Value} {xs:List Value} (h:W.ownsRow base e sz v n xs):Kd2 W v.ownBlock e:=by
 intro g hg;rcases h.2 with ⟨rfl,_⟩ | ⟨g',cap,cur,rfl,_,hh,_⟩
 ·cases hg
 ·injection hg with hg;subst hg;exact ⟨_,_,hh⟩
end
section
def Fp (z:Nat) (W W':World):Prop:=∀(k T:Nat) (cs:List Value),z≤k→Bk W k T cs→Bk W' k T cs
theorem Fp.trans {z:Nat} {A B C:World} (h:Fp z A B) (k:Fp z B C):Fp z A C:=fun i T cs hi hb=>k i T cs hi (h i T cs hi hb)
theorem Fp.putObj (z:Nat) {W:World} {r:Nat} {o:Obj} (o':Obj) (ho:W.heap[r]?=some o) (hc:o.isCells=false):Fp z W (W.putObj r o'):=fun k T cs _ hb=>by
 unfold Bk at hb ⊢;rw[World.putObj_heap_other (fun e=>by subst e;rw[hb]at ho;injection ho with ho;subst ho;cases hc)];exact hb
def E6w {α:Type} (B z:Nat) (Kp:World→World→Prop) (I:Nat→List α→World→Prop) (Ix:Code→List α→World→Prop) (xs:List α) (W:World):Exit→Act→World→Prop
 | .normal,_,W'=>KeepsFrom B W W'∧Kp W W'∧Fp z W W'∧∃z',z'≤W'.heap.size∧I z' xs W'
 | .ret,_,W'=>KeepsFrom B W W'∧Kp W W'∧Fp z W W'∧Ix .ret xs W'
 | .exit id,_,W'=>KeepsFrom B W W'∧Kp W W'∧Fp z W W'∧Ix (.exit id) xs W'
 | .goto t,_,W'=>KeepsFrom B W W'∧Kp W W'∧Fp z W W'∧Ix (.goto t) xs W'
 | .panic _,_,_=>False
 | .outgrown,_,_=>False
def E3l {α:Type} (F:Fence) (n:Nat) (P:Program) (g:Nat) (lb:Array Value) (encs:α→Array Value) (Kp:Nat→World→World→Prop) (Good:List α→α→World→Prop) (S Sp:List α→Prop) (N:Nat) (w:World):Prop:=
 ∀(l:Nat) (J:Nat→List α→World→Prop) (Jx:List α→World→Prop) (W:World),l<W.heap.size→Below w.heap.size w W→(∀z,OwnFrom W.heap.size (J z))→OwnFrom W.heap.size Jx→
  (∀z pre x W1,J z pre W1→z≤W1.heap.size→pre.length<N→Good pre x W1→YieldAt F (n-1) P l (encs x) W1 fun e W'=>
   ((e=.returned (.bool true)∧∃z',z'≤W'.heap.size∧J z' (pre++[x]) W')∨(e=.returned (.bool false)∧Jx (pre++[x]) W'))∧Kp l W1 W'∧Fp z W1 W')→
  (∃z,z≤W.heap.size∧J z [] W)→
  CallsIn F n P g (#[.func (.yield l) #[] #[]]++lb) W fun e W'=>(∃v,e=.returned v)∧((∃xs z,S xs∧J z xs W')∨(∃pre,Sp pre∧Jx pre W'))
theorem stays {B r:Nat} {W W':World} {o:Obj} (hk:KeepsFrom B W W') (hr:B≤r) (ho:W.heap[r]?=some o) (hc:o.isCells=false):W'.heap[r]?=some o:=hk.same r o hr ho hc
section
variable {F : Fence} {n : Nat} {P : Program} {w : World}
theorem B9r {α:Type} {g:Operand} {ps:Array Tmp} {assign body:Code} {Q:Exit→Act→World→Prop} {a:Act}
 (hro:F.round=none) (h1:1≤n) {gf:Nat} {lb:Array Value} (hg:a.eval g=.func (.func gf) #[] lb) (hFg:F.fn gf) (eg:∀args w,(callFunc gf args).run P w=.ok (.enter gf args) w)
 {encs:α→Array Value} {Kp:Nat→World→World→Prop} {Good:List α→α→World→Prop} {S Sp:List α→Prop} {N:Nat} {w0:World} (hseq:E3l F (n-1) P gf lb encs Kp Good S Sp N w0)
 (hKt:∀ {A B C:World},Kp (w.heap.size+1) A B→Kp (w.heap.size+1) B C→Kp (w.heap.size+1) A C) (hKb:∀(W:World) (o o':Obj),W.heap[w.heap.size+1]?=some o→o.isCells=false→o.isWalk=false→Kp (w.heap.size+1) W (W.putObj (w.heap.size+1) o')) (hb0:Below w0.heap.size w0 w) (hps:∀x,(encs x).size=ps.size)
 (I:Nat→List α→World→Prop) (Ix:Code→List α→World→Prop) (hI:∀z,OwnFrom w.heap.size (I z)) (hIx:∀c,OwnFrom w.heap.size (Ix c)) (h0:∃z,z≤w.heap.size∧I z [] w)
 (Ax:Nat→List α→World→α→Act→World→Prop) (hAx:∀z pre Z x a',OwnFrom w.heap.size (fun (_:Unit) W=>Ax z pre Z x a' W))
 (hassign:∀(l z:Nat) (pre:List α) (x:α) (W:World) (K:Act→World→Prop),I z pre W→z≤W.heap.size→Good pre x W→(∀a' W',KeepsFrom w.heap.size W W'→Kp (w.heap.size+1) W W'→Fp z W W'→Ax z pre W x a' W'→K a' W')→
  assign.wpIn (F.inRound l) (n-1-1) P (Exit.then K (fun _ _ _=>False)) { tmps:=(ps.zip (encs x)).foldl (fun t (p,v)=>t.setIfInBounds p v) a.tmps,defers:=[] } W)
 (hbody:∀(l z:Nat) (pre:List α) (x:α) (a':Act) (Z W:World),w.heap.size≤l→(∃r,W.heap[l]?=some (.loop r))→I z pre Z→z≤Z.heap.size→Ax z pre Z x a' W→pre.length<N→body.wpIn (F.inRound l) (n-1-1) P (E6w w.heap.size z (Kp (w.heap.size+1)) I Ix (pre++[x]) W) a' W)
 (hdone:∀(D z:Nat) (xs:List α) (W:World),w.heap.size≤D→S xs→I z xs W→W.heap[D]?=some (.deferred (some []))→Q .normal { a with defers:={ target:=.collected D,args:=#[] }::a.defers } W)
 (hstop:∀(D:Nat) (c:Code) (pre:List α) (W:World),w.heap.size≤D→Sp pre→Ix c pre W→W.heap[D]?=some (.deferred (some []))→c.wpIn F n P Q { a with defers:={ target:=.collected D,args:=#[] }::a.defers } W) :
 (Code.rangeFunc g ps assign body).wpIn F n P Q a w:=by
 refine wpIn_rangeFunc fun fn hfn=>?_;rw[hro];generalize hR:(fun (st:LoopState) (pe:Option Code)=>({ state:=st,pending:=pe,fn,tmps:=a.tmps,params:=ps,assign,body,defers:=w.heap.size }:Loop))=R;have eR:∀st pe,R st pe={ state:=st,pending:=pe,fn,tmps:=a.tmps,params:=ps,assign,body,defers:=w.heap.size }:=fun st pe=>by rw[←hR]
 clear hR;obtain⟨V,hV⟩:=E9 ((w.alloc (.deferred (some []))).alloc (.loop (R .ready none)));have vs:V.heap.size=w.heap.size+2:=by rw[hV];simp
 have vL:V.heap[w.heap.size+1]?=some (.loop (R .ready none)):=by rw[hV];simpa using World.alloc_heap_new (w.alloc (.deferred (some []))) (.loop (R .ready none))
 have vD:V.heap[w.heap.size]?=some (.deferred (some [])):=by rw[hV];exact (Below.heap_alloc _ _ _ (by simp)).trans (World.alloc_heap_new w _)
 have vI:∃z,z≤V.heap.size∧I z [] V:=by obtain⟨z,hz,h⟩:=h0;refine ⟨z,by omega,?_⟩;rw[hV];exact (hI z).alloc _ ((hI z).alloc _ h)
 have vB:Below w0.heap.size w0 V:=by rw[hV];exact hb0.trans ((((Below.refl _ w).alloc (Nat.le_refl _) _).alloc (by simp) _).mono hb0.size)
 refine ⟨w.heap.size+1,[{ target:=.collected w.heap.size,args:=#[] }],V,{ target:=.fn (.func gf) lb,args:=#[.func (.yield (w.heap.size+1)) #[] #[]] },V,gf,#[.func (.yield (w.heap.size+1)) #[] #[]]++lb,V,?_,?_,?_,?_,fun _=>h1,?_⟩
 ·rw[hV,eR];exact run_enterLoop_outer _ _ _ _ _
 ·simp only[resolve,hg];simp[go_sem]
 ·intro f' aJ;simp[Target.leads]at aJ;subst aJ;exact hFg
 ·simp[invoke,go_sem,eg]
 let Own2:Loop→World→Prop:=fun r W=>W.heap[w.heap.size+1]?=some (.loop r)∧W.heap[w.heap.size]?=some (.deferred (some []))
 have aG:∀ {r:Loop} {A B:World} {aB:Option Nat},Own2 r A→A.grownBy B aB→(∀q,aB=some q→V.heap.size≤q∧∃o:Obj,A.heap[q]?=some o∧o.isCells=false)→Own2 r B:=by
  intro r A B aB h aE hr;have hc:∀q,aB=some q→w.heap.size+2≤q:=fun q e=>by rw[←vs];exact (hr q e).1
  exact ⟨(aE.block _ (Array.getElem?_eq_some_iff.1 h.1).1 (fun e=>by have:=hc _ e.symm;omega)).trans h.1,(aE.block _ (Array.getElem?_eq_some_iff.1 h.2).1 (fun e=>by have:=hc _ e.symm;omega)).trans h.2⟩
 have aA:∀ {A:World} {aB:Option Nat},(∀q,aB=some q→V.heap.size≤q∧∃o:Obj,A.heap[q]?=some o∧o.isCells=false)→∀q,aB=some q→w.heap.size≤q∧∃o:Obj,A.heap[q]?=some o∧o.isCells=false:=by intro A aB hr q e;obtain⟨h2,o,h3,h4⟩:=hr q e;exact ⟨by omega,o,h3,h4⟩
 refine (hseq (w.heap.size+1) (fun z pre W=>I z pre W∧Own2 (R .ready none) W) (fun pre W=>∃c,Ix c pre W∧Own2 (R .done (some c)) W) V (by omega) vB
  (fun z s A B aB hs aE hr=>⟨hI z s A B aB hs.1 aE (aA hr),aG hs.2 aE hr⟩)
  (fun s A B aB hs aE hr=>by
   obtain⟨c,hc,h2⟩:=hs;exact ⟨c,hIx c s A B aB hc aE (aA hr),aG h2 aE hr⟩)
  ?round (by obtain⟨z,hz,h⟩:=vI;exact ⟨z,hz,h,vL,vD⟩)).mono ?after
 case round=>
  rintro z pre x W ⟨hi,hl,hd⟩ hz aI aH;have hy:=run_yield (P:=P) (args:=encs x) hl (by rw[eR];exact hps x);rw[eR]at hy;refine ⟨fn,_,assign,body,hy,roundIn_of_wpIn hfn (hassign _ z pre x W _ hi hz aH fun a' X hX hKX hzX haX=>?_)⟩;clear hy;have xl:=stays hX (by omega) hl rfl;have xd:=stays hX (Nat.le_refl _) hd rfl;have xs:w.heap.size+1<X.heap.size:=(Array.getElem?_eq_some_iff.1 xl).1;refine ⟨_,run_beginRound xl (by rw[eR]),?_⟩;obtain⟨Y,hY⟩:=E9 (X.putObj (w.heap.size+1) (.loop { R .ready none with state:=.busy }));have yl:Y.heap[w.heap.size+1]?=some (.loop { R .ready none with state:=.busy }):=by rw[hY];exact World.putObj_heap_same xs
  have yd:Y.heap[w.heap.size]?=some (.deferred (some [])):=by rw[hY];exact (World.putObj_heap_other (by omega)).trans xd
  have yK:Kp (w.heap.size+1) X Y:=by rw[hY];exact hKb _ _ _ xl rfl rfl
  have yz:Fp z X Y:=by rw[hY];exact Fp.putObj z _ xl rfl
  have yA:Ax z pre W x a' Y:=by rw[hY];exact (hAx z pre W x a').putObj (s:=()) _ haX (by omega) xl rfl
  rw[←hY];refine wpIn_mono (hbody _ z pre x a' W Y (by omega) ⟨_,yl⟩ hi hz yA aI) ?_;have aC:∀(j:Option Code) (Z:World),KeepsFrom w.heap.size Y Z→Kp (w.heap.size+1) Y Z→Fp z Y Z→
   (Instr.endRound (w.heap.size+1) j).run P Z=.ok (.bool j.isNone) (Z.putObj (w.heap.size+1) (.loop (R (if j.isNone then .ready else .done) j)))∧Z.heap[w.heap.size+1]?=some (.loop { R .ready none with state:=.busy })∧
   Own2 (R (if j.isNone then .ready else .done) j) (Z.putObj (w.heap.size+1) (.loop (R (if j.isNone then .ready else .done) j)))∧
   Kp (w.heap.size+1) W (Z.putObj (w.heap.size+1) (.loop (R (if j.isNone then .ready else .done) j)))∧Fp z W (Z.putObj (w.heap.size+1) (.loop (R (if j.isNone then .ready else .done) j))):=by
   intro j Z hZ hk aD;have zl:=stays hZ (by omega) yl rfl;have zd:=stays hZ (Nat.le_refl _) yd rfl;have he:=run_endRound (P:=P) j zl;have k1:=hKb _ _ (.loop (R (if j.isNone then .ready else .done) j)) zl rfl rfl;have k2:=Fp.putObj z (.loop (R (if j.isNone then .ready else .done) j)) zl rfl;rw[eR]at he;rw[eR]at zl;simp only[eR]at he zl k1 k2 ⊢;exact ⟨he,zl,⟨World.putObj_heap_same (Array.getElem?_eq_some_iff.1 zl).1,(World.putObj_heap_other (by omega)).trans zd⟩,hKt hKX (hKt (hKt yK hk) k1),hzX.trans ((yz.trans aD).trans k2)⟩
  rintro e a3 Z hp;cases e with
  | normal=>
   obtain⟨hZ,hk,aD,z',aK,aF⟩:=hp;obtain⟨hr,zl,h2,h3,h4⟩:=aC none Z hZ hk aD;exact ⟨_,_,hr,.inl ⟨rfl,z',by simpa using aK,(hI z').putObj _ aF (by omega) zl rfl,h2⟩,h3,h4⟩
  | ret=>
   obtain⟨hZ,hk,aD,aF⟩:=hp;obtain⟨hr,zl,h2,h3,h4⟩:=aC (some .ret) Z hZ hk aD;exact ⟨_,_,hr,.inr ⟨rfl,.ret,(hIx _).putObj _ aF (by omega) zl rfl,h2⟩,h3,h4⟩
  | exit id=>
   obtain⟨hZ,hk,aD,aF⟩:=hp;obtain⟨hr,zl,h2,h3,h4⟩:=aC (some (.exit id)) Z hZ hk aD;exact ⟨_,_,hr,.inr ⟨rfl,.exit id,(hIx _).putObj _ aF (by omega) zl rfl,h2⟩,h3,h4⟩
  | goto t=>
   obtain⟨hZ,hk,aD,aF⟩:=hp;obtain⟨hr,zl,h2,h3,h4⟩:=aC (some (.goto t)) Z hZ hk aD;exact ⟨_,_,hr,.inr ⟨rfl,.goto t,(hIx _).putObj _ aF (by omega) zl rfl,h2⟩,h3,h4⟩
  | panic ch=>exact hp.elim
  | outgrown=>exact hp.elim
 case after=>
  rintro e W2 ⟨⟨v,rfl⟩,(⟨xs,z,hS,hi,hl,hd⟩ | ⟨pre,hS,c,hi,hl,hd⟩)⟩
  ·have he:=run_endLoop (P:=P) hl (by rw[eR];simp);rw[eR]at he;exact ⟨none,_,he,hdone _ z xs _ (Nat.le_refl _) hS ((hI z).putObj _ hi (by omega) hl rfl) ((World.putObj_heap_other (by omega)).trans hd)⟩
  ·have he:=run_endLoop (P:=P) hl (by rw[eR];simp);rw[eR]at he;exact ⟨some c,_,he,hstop _ c pre _ (Nat.le_refl _) hS ((hIx c).putObj _ hi (by omega) hl rfl) ((World.putObj_heap_other (by omega)).trans hd)⟩
end
end
section
attribute [local go_sem] Oper.semAt_some
theorem D8r (l n₀:Nat) (T:List PrS) (J Jx:List PrS→World→Prop)
 (hY:∀m pre (x:PrS) W,J pre W→pre++[x] <+: T→YieldAt Fence.wide m Tryz.prog l (C9g x) W fun e W'=>
  (e=.returned (.bool true)∧J (pre++[x]) W'∧Below n₀ W W')∨(e=.returned (.bool false)∧Jx (pre++[x]) W'))
 (hJd:∀pre W k,J pre W→J pre (W.drewN k)) (t:Tr) :
 ∀(d:Nat) (P:Nat→Bool) (n:Nat) (p:Value) (pre:List PrS) (W:World),Ok d P t→At W n₀ t p→J pre W→pre++t.prs <+: T→
  CallsIn Fence.wide n Tryz.prog 72 #[p,.func (.yield l) #[] #[]] W fun e W'=>
   (e=.returned (.bool true)∧J (pre++t.prs) W'∧Below n₀ W W')∨(e=.returned (.bool false)∧∃q,q <+: t.prs∧Jx (pre++q) W'):=by
 induction t with
 | e=>
  intro d P n p pre W ok ht hJ hN;obtain rfl:p=.pointer none:=ht;refine callsIn_of_wp Tryz.func72 rfl trivial ?_ rfl;simp only[Tryz.ntmps72,List.size_toArray,List.length_cons,List.length_nil,Nat.reduceAdd,Nat.reduceSub,Array.replicate_succ,Array.replicate_zero,List.push_toArray,List.append_toArray,Vb];gi_wp2_with ((try refine ⟨trivial,?_⟩);(try refine ⟨hdw _,?_⟩);gi_at_call 45;refine (callsIn_wide.2 (Tz .e (.pointer none) W n₀ rfl)).mono ?_;rintro e W1 ⟨rfl,rfl⟩;dsimp only[Tr.len])
  go_ret;exact .inl ⟨rfl,by simpa [Tr.prs] using hJ,Below.refl _ _⟩
 | lf k v=>
  intro d P n p pre W ok ht hJ hN;obtain⟨g,rfl,hg,hk,hv,hb⟩:=ht;have hp:Gp (k,v):=⟨hk,hv⟩;have aD:(Tr.lf k v).prs=[⟨(k,v),hp⟩]:=by simp[Tr.prs,hp]
  rw[aD]at hN ⊢;have aH:=Yn hb hk;have aI:=A3b hb hk hv;have aR:C8 W.drew ⟨g,0,none⟩ 32=some (c8 k):=aH;have aS:C8 W.drew ⟨g,32,none⟩ 32=some (c8 v):=aI;have aE:At W n₀ (.lf k v) (.pointer (some ⟨g,0,none⟩)):=⟨g,rfl,hg,hk,hv,hb⟩;have aJ:Tryz.prog.follows .mixedOrders=true:=by kernel_rfl
  refine callsIn_of_wp Tryz.func72 rfl trivial ?_ rfl;simp only[Tryz.ntmps72,List.size_toArray,List.length_cons,List.length_nil,Nat.reduceAdd,Nat.reduceSub,Array.replicate_succ,Array.replicate_zero,List.push_toArray,List.append_toArray,Vb];gi_wp2_with ((try refine ⟨trivial,?_⟩);(try refine ⟨hdw _,?_⟩);gi_at_call 45;refine (callsIn_wide.2 (Tz (.lf k v) _ W n₀ aE)).mono ?_;rintro e W1 ⟨rfl,aB⟩;rw[aB];clear aB;dsimp only[Tr.len])
  refine A1i A7m (fun w'=>∃k,w'=W.drewN k) 9 aJ (by kernel_rfl) (by kernel_rfl) ⟨1,rfl⟩ ?_;simp only[List.take_succ_cons,List.take_zero,List.drop_succ_cons,List.drop_zero];repeat (go_big_quiet_step (fail))
  refine wpQuiet_nil ?_;rintro w1 ⟨nq,rfl⟩;obtain⟨fn,tmps,aF,aK,hy,hR⟩:=hY (n-1) pre ⟨(k,v),hp⟩ (W.drewN nq) (hJd _ _ _ hJ) hN;dsimp only[C9g]at hy;gi_wp2_with ((try refine ⟨trivial,?_⟩);(try refine ⟨hdw _,?_⟩);refine hR.mono ?_;rintro e W2 (⟨rfl,hJ2,hb2⟩ | ⟨rfl,hx2⟩))
  ·go_ret;exact .inl ⟨rfl,hJ2,(K9 (Below.refl n₀ W) nq).trans hb2⟩
  ·go_ret;exact .inr ⟨rfl,[⟨(k,v),hp⟩],List.prefix_refl _,hx2⟩
 | nd tl tr ihl ihr=>
  intro d P n p pre W ok ht hJ hN;have aE:=ht;obtain⟨g,pl,pr,rfl,hg,hb,aA,aC⟩:=ht;obtain⟨al,rfl⟩:=aA.form;obtain⟨ar,rfl⟩:=aC.form;have c0:=Tw hb (Y9 32) (Y9 32);have c1:=Oz hb (Y9 32) (Y9 32);have aL:2≤(Tr.nd tl tr).len:=ok.2.1;simp only[Tr.prs]at hN;have aM:pre++tl.prs <+: T:=List.IsPrefix.trans ⟨tr.prs,by simp⟩ hN;have aN:(pre++tl.prs)++tr.prs <+: T:=by simpa using hN
  obtain⟨m,hm⟩:=E9 ((Tr.nd tl tr).len);rw[←hm]at aL;have Hm:=Lib.hid hm.symm;clear hm;have aO:((m:Int)==0)=false:=by rw[beq_eq_false_iff_ne];omega
  have aP:((m:Int)==1)=false:=by rw[beq_eq_false_iff_ne];omega
  have aG:=(ihl (d+1) _ (n-1) _ pre W ok.2.2.1 aA hJ aM).mono (R':=fun e W1=>
   (e=.returned (.bool true)∧J (pre++tl.prs) W1∧W1.cell? ⟨g,65,none⟩=some (.pointer ar)∧At W1 n₀ tr (.pointer ar)∧Below n₀ W W1)∨
   (e=.returned (.bool false)∧∃q,q <+: tl.prs∧Jx (pre++q) W1))
   (fun e W1 h=>h.elim (fun ⟨he,hj,hb1⟩=>.inl ⟨he,hj,(hb1.cell (p:=⟨g,65,none⟩) hg).trans c1,aC.below hb1,hb1⟩) .inr)
  clear ihl hb aA;refine callsIn_of_wp Tryz.func72 rfl trivial ?_ rfl;simp only[Tryz.ntmps72,List.size_toArray,List.length_cons,List.length_nil,Nat.reduceAdd,Nat.reduceSub,Array.replicate_succ,Array.replicate_zero,List.push_toArray,List.append_toArray,Vb];gi_wp2_with (first
   | ((try refine ⟨trivial,?_⟩);(try refine ⟨hdw _,?_⟩);gi_at_call 45;refine (callsIn_wide.2 (Tz (.nd tl tr) _ W n₀ aE)).mono ?_;rintro e W1 ⟨rfl,aB⟩;rw[aB,Hm.out];clear aB)
   | ((try refine ⟨trivial,?_⟩);(try refine ⟨hdw _,?_⟩);gi_at_call 72;refine aG.mono ?_;clear aG;rintro e W1 (⟨rfl,hJ1,c1',hatr1,hb1⟩ | ⟨rfl,q,hq,hx1⟩))
   | ((try refine ⟨trivial,?_⟩);(try refine ⟨hdw _,?_⟩);gi_at_call 72;refine (ihr (d+1) _ (n-1) _ _ _ ok.2.2.2 hatr1 hJ1 aN).mono ?_;rintro e W3 (⟨rfl,hJ3,hb3⟩ | ⟨rfl,q,hq,hx3⟩)))
  ·go_ret;exact .inl ⟨rfl,by simpa [Tr.prs,List.append_assoc] using hJ3,hb1.trans hb3⟩
  ·go_ret;obtain⟨r,aQ⟩:=hq;exact .inr ⟨rfl,tl.prs++q,⟨r,by simp[Tr.prs,←aQ]⟩,by simpa [List.append_assoc] using hx3⟩
  ·refine ⟨trivial,?_⟩;gi_wp2
   go_ret;exact .inr ⟨rfl,q,hq.trans (by simp[Tr.prs]),hx1⟩
theorem D1p (n l Bt n₀:Nat) (p0:Value) (dd:Value) (t:Tr) (d:Nat) (P:Nat→Bool) (ok:Ok d P t) (J Jx:List PrS→World→Prop)
 (hY:∀pre (x:PrS) W,J pre W→pre++[x] <+: t.prs→YieldAt Fence.wide (n-1) Tryz.prog l (C9g x) W fun e W'=>
  (e=.returned (.bool true)∧J (pre++[x]) W'∧Below n₀ W W')∨(e=.returned (.bool false)∧Jx (pre++[x]) W'))
 (hJd:∀pre W k,J pre W→J pre (W.drewN k)) (W:World) (hBt:Bk W Bt 31 [p0,dd]) (hT:At W n₀ t p0) (h0:J [] W) :
 CallsIn Fence.wide n Tryz.prog 71 #[.func (.yield l) #[] #[],.pointer (some ⟨Bt,0,none⟩)] W fun e W'=>(∃v,e=.returned v)∧
  ((∃ys,ys=t.prs∧J ys W')∨(∃pre,pre <+: t.prs∧Jx pre W')):=by
 obtain⟨ap,rfl⟩:=hT.form;have c0:W.cell? ⟨Bt,0,none⟩=some (.pointer ap):=hBt.at_ rfl;have hp:=D8r l n₀ t.prs J Jx (fun m pre x W hj hl=>Uq rfl m (hY pre x W hj hl)) hJd t d P (n-1) _ [] W ok hT h0 (List.prefix_refl _);refine callsIn_of_wp Tryz.func71 rfl trivial ?_ rfl;simp only[Tryz.ntmps71,List.size_toArray,List.length_cons,List.length_nil,Nat.reduceAdd,Nat.reduceSub,Array.replicate_succ,Array.replicate_zero,List.push_toArray,List.append_toArray,Vb];gi_wp2_with ((try refine ⟨trivial,?_⟩);(try refine ⟨hdw _,?_⟩);gi_at_call 72;refine hp.mono ?_;clear hp;rintro e W1 (⟨rfl,hJ1,_⟩ | ⟨rfl,q,hq,hx⟩))
 ·go_end0
  exact ⟨⟨_,rfl⟩,.inl ⟨_,rfl,by simpa using hJ1⟩⟩
 ·go_end0
  exact ⟨⟨_,rfl⟩,.inr ⟨q,hq,by simpa using hx⟩⟩
theorem E9b (n Bt n₀:Nat) (p0 dd:Value) (t:Tr) (d:Nat) (P:Nat→Bool) (ok:Ok d P t) (w:World) (hBt:Bk w Bt 31 [p0,dd]) (hn₀:n₀≤w.heap.size) (hT:At w n₀ t p0) :
 E3l Fence.wide n Tryz.prog 71 #[.pointer (some ⟨Bt,0,none⟩)] C9g (fun _=>Below n₀) (fun pre x _=>pre++[x] <+: t.prs) (fun ys=>ys=t.prs) (fun pre=>pre <+: t.prs) t.prs.length w:=by
 intro l J Jx W hl hW hJ aD hY h0;refine (D1p n l Bt n₀ p0 dd t d P ok (fun pre V=>∃z,z≤V.heap.size∧J z pre V) Jx (fun pre x V hj hp=>?_) (fun pre V k hv=>?_) W (hBt.bl hW) (hT.below (hW.mono hn₀)) h0).mono ?_
 ·obtain⟨z,hz,hj⟩:=hj;have aB:pre.length<t.prs.length:=by have:=hp.length_le;simp at this;omega
  obtain⟨fn,tmps,aA,aC,hy,hR⟩:=hY z pre x V hj hz aB hp;refine ⟨fn,tmps,aA,aC,hy,hR.mono fun e W' he=>?_⟩;obtain⟨h1 | h1,h2,h3⟩:=he
  ·exact .inl ⟨h1.1,h1.2,h2⟩
  ·exact .inr h1
 ·obtain⟨z,hz,hj⟩:=hv;exact ⟨z,hz,hJ z pre V (V.drewN k) none hj ⟨rfl,rfl,rfl,Nat.le_refl _,fun _ _ _=>rfl⟩ (fun r e=>by cases e)⟩
 ·rintro e W' ⟨h1,⟨xs,h2,z,_,h3⟩ | h2⟩
  ·exact ⟨h1,.inl ⟨xs,z,h2,h3⟩⟩
  ·exact ⟨h1,.inr h2⟩
end
end Go.Proofs.YtlegpkdighoflaaGreat
